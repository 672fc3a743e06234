/- What the functions do, in plain Lean, on the objects that are kept in order. -/
import Derived.Laws.Strings
import Derived.Test.YthodkonhneebbaaGreatDoorKY5
import Derived.Test.YthodkonhneebbaaGreatDoorKY7
namespace Go.Proofs.YthodkonhneebbaaGreatDoor
open Go.Hx
open Int renaming tmod->fJ,tdiv->dm,fdiv->fS,toNat->ax,emod_lt_of_pos->A9,mul_comm->mW,mul_le_mul_of_nonneg_right->Cw,mul_ediv_add_emod->u_,le_refl->dU
open List renaming length->aa,set->aG,replicate->cy,length_set->mo,append_nil->oq,length_cons->kU,length_nil->tY,length_filter_le->EE,drop_of_length_le->A_,getD_eq_getElem?_getD->alV,getElem?_take_of_lt->alW,mem_cons->nK,not_mem_nil->tZ,length_append->tX,mem_cons_self->jj,take_of_length_le->Cx,mem_cons_of_mem->j6,mem_append_left->wc,mem_append_right->EF
open BitVec renaming toNat->gi,ofInt->b_
open Nat renaming le_refl->l7
open Bool renaming eq_iff_iff->qC,not_true->mV,false_eq_true->gj,not_false->vZ
open Classical renaming byContradiction->jL
set_option linter.unusedVariables false
set_option linter.unusedSimpArgs false
theorem bg {x:Int} (h1: -9223372036854775808<=x) (h2:x<=9223372036854775807):af x=x:=by
 unfold af IntKind.wrap IntKind.signed IntKind.bits;simp;omega
theorem qz {a b:Int} (h:0<=a):dm a b=a/b:=Int.tdiv_eq_ediv_of_nonneg h
theorem nF {a b:Int} (h:0<=a):fJ a b=a%b:=Int.tmod_eq_emod_of_nonneg h
abbrev gS (w h:Int):Prop:=1<=w/\w<=1024/\1<=h/\h<=1024
abbrev bQ (w h c:Int):Prop:=gS w h/\0<=c/\c<w*h
theorem kc {a b m n:Int} (ha:0<=a) (hb:0<=b) (h1:a<=m) (h2:b<=n):a*b<=m*n:=
 Int.mul_le_mul h1 h2 hb U
theorem nV {a b:Int} (ha:0<=a) (hb:0<=b):0<=a*b:=Int.mul_nonneg ha hb
theorem rW {w h:Int} (hm:gS w h):1<=w*h/\w*h<=1048576:=by
 obtain⟨a,b,c,d⟩:=hm;have h1:w*h<=1024*1024:=kc U U b d;have h2:1*1<=w*h:=Int.mul_le_mul a c U U;omega
theorem An (w h:Int):ph.f w h=some (decide (gS w h)):=by
 unfold ph.f
 congr 1
 simp only[gS];rw[qC];simp;omega
theorem Ii (n lo hi:Int):nu.f n lo hi=some (decide (lo<=n/\n<=hi)):=by
 unfold nu.f
 congr 1
 rw[qC];simp
theorem QH (w h:Int):xg.f w h=some (decide (gS w h)):=by
 unfold xg.f;simp only[Ii,aD,gS]
 by_cases h1:1<=w/\w<=1024
 ·simp[h1]
 ·simp[h1];omega
def bq (w h:Int):Int×Int:=if gS w h then((w+15)/16,(h+15)/16) else(0,0)
theorem Ed (w h:Int):rp.f w h=some (bq w h):=by
 unfold rp.f bq;simp only[An,aD]
 by_cases hm:gS w h
 ·rw[decide_eq_true hm,ag hm,ah aX];obtain⟨a,b,c,d⟩:=hm;simp only[bg (x:=w+16) U U,bg (x:=h+16) U U,bg (x:=w+16-1) U U,bg (x:=h+16-1) U U,
   qz (a:=w+16-1) U,qz (a:=h+16-1) U,bg (x:=(w+16-1)/16) U U,bg (x:=(h+16-1)/16) U U]
  congr 2<;>omega
 ·simp[hm]
theorem QK (w h:Int):xh.f w h=some (bq w h):=by
 rw[<-Ed];unfold xh.f rp.f;rw[QH,An]
theorem Ee {w h:Int} (hm:gS w h):1<=(bq w h).1/\(bq w h).1<=64/\1<=(bq w h).2/\(bq w h).2<=64:=by
 unfold bq;rw[ag hm];obtain⟨a,b,c,d⟩:=hm;simp only;omega
theorem ajO (w h:Int):0<=(bq w h).1/\(bq w h).1<=64/\0<=(bq w h).2/\(bq w h).2<=64:=by
 by_cases hm:gS w h
 ·have:=Ee hm;omega
 ·unfold bq;rw[ah hm];simp
def dB (w h:Int):Int:=(bq w h).1*(bq w h).2
theorem oE (w h:Int):0<=dB w h/\dB w h<=4096:=by
 obtain⟨a,b,c,d⟩:=ajO w h;have h1:dB w h<=64*64:=kc a c b d;have h2:0<=dB w h:=nV a c;omega
theorem acv {w h:Int} (hm:gS w h):1<=dB w h:=by
 obtain⟨a,b,c,d⟩:=Ee hm;have h2:1*1<=dB w h:=Int.mul_le_mul a c U U;omega
theorem Qy (w h:Int):Ay.f w h=some (dB w h):=by
 unfold Ay.f;have:=oE w h;simp only[QK,aD,dB];unfold dB at this;rw[bg U U]
abbrev bE (w h s:Int):Prop:=0<=s/\s<dB w h
def I_ (w h s:Int):Int×Int×Bool:=if bE w h s then(16*(s%(bq w h).1),16*(s/(bq w h).1),true) else(0,0,false)
theorem uP {w h s:Int} (hs:bE w h s):gS w h:=by
 by_cases hm:gS w h
 ·exact hm
 ·have:dB w h=0:=by unfold dB bq;rw[ah hm];simp
  obtain⟨a,b⟩:=hs;omega
theorem uQ {w h s:Int} (hs:bE w h s):0<=s%(bq w h).1/\s%(bq w h).1<(bq w h).1/\0<=s/(bq w h).1/\s/(bq w h).1<(bq w h).2:=by
 obtain⟨a,b,c,d⟩:=Ee (uP hs);obtain⟨h0,h1⟩:=hs;refine⟨Int.emod_nonneg _ U,A9 _ U,Int.ediv_nonneg h0 U,?_⟩;unfold dB at h1;exact Int.ediv_lt_of_lt_mul U (by rw[mW];exact h1)
theorem S4 (w h s:Int):AU.f w h s=some (I_ w h s):=by
 unfold AU.f I_;simp only[Ed,aD];have hc:=oE w h;have hw:af ((bq w h).1*(bq w h).2)=dB w h:=by unfold dB at hc⊢;exact bg U U
 rw[hw]
 by_cases hs:bE w h s
 ·have hb:((decide (s<0))||(decide (s≥dB w h)))=false:=by
   obtain⟨h0,h1⟩:=hs;simp;omega
  rw[hb];obtain⟨p1,p2,p3,p4⟩:=uQ hs;obtain⟨a,b,c,d⟩:=Ee (uP hs);have bD: ¬(bq w h).1=0:=U;rw[ah aX,ag bD,ag bD,ag hs,nF hs.1,qz hs.1];rw[bg (x:=s/(bq w h).1) U U,bg U U,bg U U];rw[mW 16,mW 16]
 ·have hb:((decide (s<0))||(decide (s≥dB w h)))=true:=by
   simp only[bE] at hs;simp;omega
  rw[hb,ah hs];rfl
def az (w h s:Int):Int×Int:=if bE w h s then(min 16 (w-16*(s%(bq w h).1)),min 16 (h-16*(s/(bq w h).1))) else(0,0)
theorem QX {w h s:Int} (hs:bE w h s):16*(s%(bq w h).1)<w/\16*(s/(bq w h).1)<h:=by
 have hm:=uP hs;obtain⟨p1,p2,p3,p4⟩:=uQ hs;have e1:(bq w h).1=(w+15)/16:=by unfold bq;rw[ag hm]
 have e2:(bq w h).2=(h+15)/16:=by unfold bq;rw[ag hm]
 generalize s%(bq w h).1=x at*;generalize s/(bq w h).1=y at*;omega
theorem LX (x:Int):(if x<16 then x else 16)=min 16 x:=by
 rw[Int.min_def];split<;>split<;>omega
theorem F0 (w h s:Int):sB.f w h s=some (az w h s):=by
 unfold sB.f az;simp only[S4,aD];unfold I_
 by_cases hs:bE w h s
 ·rw[ag hs,ag hs];obtain⟨r1,r2⟩:=QX hs;obtain⟨p1,p2,p3,p4⟩:=uQ hs;obtain⟨a,b,c,d⟩:=uP hs;rw[ah aX];simp only;rw[bg (x:=w-_) U U,bg (x:=h-_) U U,LX,LX]
 ·rw[ah hs,ah hs];rfl
theorem Yo (w h s:Int):Az.f w h s=some (az w h s):=by
 unfold Az.f az;have hc:=oE w h;simp only[Qy,aD,Ii,QK];rw[bg (x:=dB w h-1) U U]
 by_cases hs:bE w h s
 ·have hb:decide (0<=s/\s<=dB w h-1)=true:=by obtain⟨h0,h1⟩:=hs;simp;omega
  rw[hb,ag hs];obtain⟨r1,r2⟩:=QX hs;obtain⟨p1,p2,p3,p4⟩:=uQ hs;obtain⟨a,b,c,d⟩:=Ee (uP hs);obtain⟨m1,m2,m3,m4⟩:=uP hs;have bD: ¬(bq w h).1=0:=U;rw[ah aX,ag bD,ag bD,nF hs.1,qz hs.1];rw[bg (x:=s/(bq w h).1) U U,bg (x:=16*(s%_)) U U,bg (x:=16*(s/_)) U U,
   bg (x:=w-_) U U,bg (x:=h-_) U U,LX,LX]
 ·have hb:decide (0<=s/\s<=dB w h-1)=false:=by simp only[bE] at hs;simp;omega
  rw[hb,ah hs];rfl
theorem qw {w h s:Int} (hs:bE w h s):1<=(az w h s).1/\(az w h s).1<=16/\1<=(az w h s).2/\(az w h s).2<=16:=by
 obtain⟨r1,r2⟩:=QX hs;unfold az;rw[ag hs];simp only;omega
theorem size_le (w h s:Int):0<=(az w h s).1/\(az w h s).1<=16/\0<=(az w h s).2/\(az w h s).2<=16:=by
 by_cases hs:bE w h s
 ·have:=qw hs;omega
 ·unfold az;rw[ah hs];simp
def oa (w h x y:Int):Int:=if gS w h/\0<=x/\x<w/\0<=y/\y<h then y*w+x else-1
theorem sS {w h x y:Int} (hx:0<=x) (Ae:x<w) (hy:0<=y) (Wj:y<h):0<=y*w+x/\y*w+x<w*h:=by
 have h1:(y+1)*w<=h*w:=Cw U U;have h2:(y+1)*w=y*w+w:=by rw[Int.add_mul];omega
 have h3:0<=y*w:=nV hy U;have h4:h*w=w*h:=mW _ _;omega
theorem SP (w h x y:Int):AR.f w h x y=some (oa w h x y):=by
 unfold AR.f oa;simp only[An,aD]
 by_cases hc:gS w h/\0<=x/\x<w/\0<=y/\y<h
 ·obtain⟨hm,h1,h2,h3,h4⟩:=hc;have hb:(((((!decide (gS w h))||(decide (x<0)))||(decide (x≥w)))||(decide (y<0)))||(decide (y≥h)))=false:=by
   simp[hm];omega
  rw[hb,ah aX,ag ⟨hm,h1,h2,h3,h4⟩];have:=sS h1 h2 h3 h4;have hp:=rW hm;have h5:0<=y*w:=nV h3 U;rw[bg (x:=y*w) U U,bg U U]
 ·have hb:(((((!decide (gS w h))||(decide (x<0)))||(decide (x≥w)))||(decide (y<0)))||(decide (y≥h)))=true:=by
   by_cases hm:gS w h
   ·have jr: ¬(0<=x/\x<w/\0<=y/\y<h):=λh=>hc ⟨hm,h⟩
    simp[hm];omega
   ·simp[hm]
  rw[hb,ah hc];rfl
theorem Wt (w h c:Int):xF.f w h c=some (decide (bQ w h c)):=by
 unfold xF.f;simp only[An,aD]
 by_cases hm:gS w h
 ·have hp:=rW hm;rw[bg U U];simp[hm]
 ·simp[hm]
theorem aje (w h c:Int):D1.f w h c=some (decide (bQ w h c)):=by
 unfold D1.f;simp only[QH,aD,Ii]
 by_cases hm:gS w h
 ·have hp:=rW hm;rw[bg (x:=w*h) U U,bg (x:=w*h-1) U U];rw[decide_eq_true hm,ag J];simp only[aD]
  congr 1
  rw[qC];simp[hm];omega
 ·simp[hm]
def BV (w h c:Int):Int×Int:=if bQ w h c then(c%w,c/w) else(-1,-1)
theorem vF {w h c:Int} (hc:bQ w h c):0<=c%w/\c%w<w/\0<=c/w/\c/w<h:=by
 obtain⟨⟨a,b,d,e⟩,h0,h1⟩:=hc;exact⟨Int.emod_nonneg _ U,A9 _ U,Int.ediv_nonneg h0 U,Int.ediv_lt_of_lt_mul U (by rw[mW];exact h1)⟩
theorem Qs (w h c:Int):xE.f w h c=some (BV w h c):=by
 unfold xE.f BV;simp only[Wt,aD]
 by_cases hc:bQ w h c
 ·have hp:=vF hc;have hm:=hc.1;have bD: ¬w=0:=by obtain⟨a,_⟩:=hm;omega
  rw[ah (by simp[hc]),ag bD,ag bD,ag hc,nF hc.2.1,qz hc.2.1]
  obtain⟨a,b,d,e⟩:=hm;rw[bg U U]
 ·simp[hc]
theorem FF {w h c:Int}:(BV w h c).1<0↔ ¬bQ w h c:=by
 unfold BV
 by_cases hc:bQ w h c
 ·have:=vF hc;rw[ag hc];exact⟨λh=>by simp only at h;omega,λh=>absurd hc h⟩
 ·rw[ah hc];simp[hc]
def aQ (w h c:Int):Int:=if bQ w h c then c/w/16*(bq w h).1+c%w/16 else-1
theorem Eb {w h c:Int} (hc:bQ w h c):0<=c%w/16/\c%w/16<(bq w h).1/\0<=c/w/16/\c/w/16<(bq w h).2:=by
 have hp:=vF hc;have e1:(bq w h).1=(w+15)/16:=by unfold bq;rw[ag hc.1]
 have e2:(bq w h).2=(h+15)/16:=by unfold bq;rw[ag hc.1]
 rw[e1,e2];generalize c%w=x at*;generalize c/w=y at*;omega
theorem FW {w h c:Int} (hc:bQ w h c):bE w h (c/w/16*(bq w h).1+c%w/16):=by
 obtain⟨a,b,d,e⟩:=Eb hc;have:=sS a b d e;unfold bE dB;exact this
theorem si (w h c:Int):gJ.f w h c=some (aQ w h c):=by
 unfold gJ.f aQ;simp only[Qs,aD]
 by_cases hc:bQ w h c
 ·rw[ah (by rw[FF];simp[hc]),Ed]
  simp only[aD,BV];rw[ag hc,ag hc];have hp:=vF hc;obtain⟨a,b,d,e⟩:=Eb hc;obtain⟨m1,m2,m3,m4⟩:=Ee hc.1;have hs:=FW hc;have hk:=oE w h;obtain⟨s1,s2⟩:=hs;have h5:0<=c/w/16*(bq w h).1:=nV d U;simp only;rw[qz hp.2.2.1,qz hp.1,bg (x:=c/w/16) U U,bg (x:=c%w/16) U U,bg (x:=_*_) U U,bg U U]
 ·rw[ag (by rw[FF];exact hc),ah hc]
theorem qg {a x y:Int} (h0:0<=x) (h1:x<a):(y*a+x)%a=x/\(y*a+x)/a=y:=by
 have ha:a≠0:=U;constructor
 ·rw[Int.add_comm,Int.add_mul_emod_self_right];exact Int.emod_eq_of_lt h0 h1
 ·rw[Int.add_comm,Int.add_mul_ediv_right _ _ ha,Int.ediv_eq_zero_of_lt h0 h1];omega
def cD (w h c:Int):Int:=if bQ w h c then c/w%16*(az w h (aQ w h c)).1+c%w%16 else-1
theorem P6 {w h c:Int} (hc:bQ w h c):c%w%16<(az w h (aQ w h c)).1/\c/w%16<(az w h (aQ w h c)).2:=by
 have hs:=FW hc;obtain⟨a,b,d,e⟩:=Eb hc;have hn:=qg (a:=(bq w h).1) (x:=c%w/16) (y:=c/w/16) a b;have hp:=vF hc;unfold aQ;rw[ag hc];unfold az;rw[ag hs,hn.1,hn.2];simp only;generalize c%w=x at*;generalize c/w=y at*;omega
theorem AK {w h c:Int}:aQ w h c<0↔ ¬bQ w h c:=by
 unfold aQ
 by_cases hc:bQ w h c
 ·have:=FW hc;rw[ag hc];exact⟨λh=>by unfold bE at this;omega,λh=>absurd hc h⟩
 ·rw[ah hc];simp[hc]
def cn (w h s l:Int):Int:=
 if bE w h s/\0<=l/\l<(az w h s).1*(az w h s).2 then(16*(s/(bq w h).1)+l/(az w h s).1)*w+(16*(s%(bq w h).1)+l%(az w h s).1) else-1
theorem wE {w h s l:Int} (hs:bE w h s) (h0:0<=l) (h1:l<(az w h s).1*(az w h s).2):
 0<=l%(az w h s).1/\l%(az w h s).1<(az w h s).1/\0<=l/(az w h s).1/\l/(az w h s).1<(az w h s).2/\
 16*(s%(bq w h).1)+l%(az w h s).1<w/\16*(s/(bq w h).1)+l/(az w h s).1<h:=by
 obtain⟨z1,z2,z3,z4⟩:=qw hs;have a1:0<=l%(az w h s).1:=Int.emod_nonneg _ U;have a2:l%(az w h s).1<(az w h s).1:=A9 _ U;have a3:0<=l/(az w h s).1:=Int.ediv_nonneg h0 U;have a4:l/(az w h s).1<(az w h s).2:=Int.ediv_lt_of_lt_mul U (by rw[mW];exact h1)
 refine⟨a1,a2,a3,a4,?_,?_⟩
 ·have:(az w h s).1<=w-16*(s%(bq w h).1):=by unfold az;rw[ag hs];simp only;omega
  omega
 ·have:(az w h s).2<=h-16*(s/(bq w h).1):=by unfold az;rw[ag hs];simp only;omega
  omega
theorem KI (w h s l:Int):u6.f w h s l=some (cn w h s l):=by
 unfold u6.f cn;simp only[S4,aD,F0,SP];have hz:=size_le w h s;have LA:(az w h s).1*(az w h s).2<=16*16:=kc hz.1 hz.2.2.1 hz.2.1 hz.2.2.2;have hz2:0<=(az w h s).1*(az w h s).2:=nV hz.1 hz.2.2.1;rw[bg (x:=_*(az w h s).2) U U]
 by_cases hs:bE w h s
 ·unfold I_;rw[ag hs]
  by_cases hl:0<=l/\l<(az w h s).1*(az w h s).2
  ·obtain⟨a1,a2,a3,a4,a5,a6⟩:=wE hs hl.1 hl.2;obtain⟨z1,z2,z3,z4⟩:=qw hs;obtain⟨m1,m2,m3,m4⟩:=uP hs;obtain⟨p1,p2,p3,p4⟩:=uQ hs;have bD: ¬(az w h s).1=0:=U;rw[ah bf,ag bD,ag bD,ag (c:=bE w h s/\_) ⟨hs,hl⟩];simp only;rw[nF hl.1,qz hl.1,bg (x:=l/_) U U,bg (x:=_+l%_) U U,bg (x:=_+l/_) U U];unfold oa;rw[ag ⟨⟨m1,m2,m3,m4⟩,by omega,a5,by omega,a6⟩]
  ·rw[ag bf,ah (λh=>hl h.2)]
 ·unfold I_;rw[ah hs,ag aX,ah (c:=bE w h s/\_) (λh=>hs h.1)]
theorem ajc (w h s l:Int):DZ.f w h s l=some (cn w h s l):=by
 unfold DZ.f cn;simp only[Yo,aD,Ii,QK];have hz:=size_le w h s;have LA:(az w h s).1*(az w h s).2<=16*16:=kc hz.1 hz.2.2.1 hz.2.1 hz.2.2.2;have hz2:0<=(az w h s).1*(az w h s).2:=nV hz.1 hz.2.2.1;rw[bg (x:=_*(az w h s).2) U U,bg (x:=_*(az w h s).2-1) U U]
 by_cases hs:bE w h s
 ·by_cases hl:0<=l/\l<(az w h s).1*(az w h s).2
  ·obtain⟨a1,a2,a3,a4,a5,a6⟩:=wE hs hl.1 hl.2;obtain⟨z1,z2,z3,z4⟩:=qw hs;obtain⟨m1,m2,m3,m4⟩:=uP hs;obtain⟨p1,p2,p3,p4⟩:=uQ hs;obtain⟨s1,s2,s3,s4⟩:=Ee (uP hs);have bD: ¬(az w h s).1=0:=U;have VP: ¬(bq w h).1=0:=U;rw[ah bf,ag (c:=bE w h s/\_) ⟨hs,hl⟩,ag VP,ag bD,ag VP,ag bD,nF hl.1,qz hl.1,nF hs.1,qz hs.1];have hg:=sS (w:=w) (h:=h) (x:=16*(s%(bq w h).1)+l%(az w h s).1) (y:=16*(s/(bq w h).1)+l/(az w h s).1) U a5 U a6;have hq:0<=(16*(s/(bq w h).1)+l/(az w h s).1)*w:=nV U U;have hp:=rW (uP hs);rw[bg (x:=l/_) U U,bg (x:=s/_) U U,bg (x:=16*(s/_)) U U,bg (x:=16*(s/_)+_) U U,
    bg (x:=_*w) U U,bg (x:=16*(s%_)) U U,bg (x:=_*w+_) U U,bg U U]
   congr 1;omega
  ·rw[ag bf,ah (λh=>hl h.2)]
 ·have h1:(az w h s).1=0:=by unfold az;rw[ah hs]
  rw[ag (by simp[h1];omega),ah (λh=>hs h.1)]
theorem Rm {n lo hi:Int} (mF: -4611686018427387904<=lo) (wO:hi<=4611686018427387904) (hle:lo<=hi) (hn:hi-lo<=4611686018427387904):fo.f n lo hi=some (lo+n%(hi-lo+1)):=by
 unfold fo.f;rw[bg (x:=hi-lo) U U,bg (x:=hi-lo+1) U U,ag U];generalize hm:hi-lo+1=m;have Dh:0<m:=U;have h1:0<=n%m:=Int.emod_nonneg _ U;have h2:n%m<m:=A9 _ Dh
 by_cases HS:0<=n
 ·rw[nF HS,ah U,bg U U]
 ·have ha:fJ n m=if n%m=0 then 0 else n%m-m:=by
   rw[Int.tmod_eq_emod];have hd:(m∣n)↔n%m=0:=⟨Int.emod_eq_zero_of_dvd,Int.dvd_of_emod_eq_zero⟩
   by_cases h0:n%m=0
   ·simp[h0,hd]
   ·simp[h0,hd,HS];omega
  rw[ha]
  by_cases h0:n%m=0
  ·rw[ag h0,ah U,bg U U,h0]
  ·rw[ah h0,ag U,bg (x:=_+hi) U U,bg (x:=_-lo) U U,bg (x:=_+1) U U,bg U U]
   congr 1;omega
theorem Rn {n lo hi:Int} (hle:lo<=hi):lo<=lo+n%(hi-lo+1)/\lo+n%(hi-lo+1)<=hi:=by
 have h1:0<=n%(hi-lo+1):=Int.emod_nonneg _ U;have h2:n%(hi-lo+1)<hi-lo+1:=A9 _ U;omega
def dX (side:Int):Int:=if side=1 then 1 else if side=3 then-1 else 0
def dY (side:Int):Int:=if side=0 then-1 else if side=2 then 1 else 0
def bB (w h c side:Int):Int:=
 if bQ w h c/\0<=side/\side<=4 then oa w h (c%w+dX side) (c/w+dY side) else-1
theorem F4 (w h c side:Int):mP.f w h c side=some (bB w h c side):=by
 unfold mP.f bB;simp only[Qs,aD]
 by_cases hc:bQ w h c
 ·rw[ah (by rw[FF];simp[hc])]
  have hp:=vF hc;obtain⟨q1,q2,q3,q4⟩:=hc.1;have e:BV w h c=(c%w,c/w):=by unfold BV;rw[ag hc]
  simp only[e,SP,aD];have e1:af (c/w+ -1)=c/w+ -1:=bg U U;have e2:af (c/w+1)=c/w+1:=bg U U;have e3:af (c%w+ -1)=c%w+ -1:=bg U U;have e4:af (c%w+1)=c%w+1:=bg U U
  by_cases h0:side=0
  ·subst h0;simp[e1,dX,dY,hc]
  by_cases h2:side=2
  ·subst h2;simp[e2,dX,dY,hc]
  by_cases h3:side=3
  ·subst h3;simp[e3,dX,dY,hc]
  by_cases h1:side=1
  ·subst h1;simp[e4,dX,dY,hc]
  by_cases h4:side=4
  ·subst h4;simp[dX,dY,hc]
  ·rw[ah (c:=bQ w h c/\_) U];simp[h0,h1,h2,h3,h4]
 ·rw[ag (by rw[FF];exact hc),ah (λh=>hc h.1)]
theorem ajm (w h c side:Int):D4.f w h c side=some (bB w h c side):=by
 unfold D4.f bB;simp only[aje,Ii,aD]
 by_cases hc:bQ w h c
 ·have hp:=vF hc;obtain⟨q1,q2,q3,q4⟩:=hc.1;have bD: ¬w=0:=U
  by_cases hs:0<=side/\side<=4
  ·have e1:af (c/w-1)=c/w-1:=bg U U;have e2:af (c/w+1)=c/w+1:=bg U U;have e3:af (c%w-1)=c%w-1:=bg U U;have e4:af (c%w+1)=c%w+1:=bg U U;have e5:af (c/w)=c/w:=bg U U;have e6:af (w-1)=w-1:=bg U U;have e7:af (h-1)=h-1:=bg U U;have fin: ∀x y:Int,-1<=x->x<=w-> -1<=y->y<=h->
    (if x<0∨w-1<x then some true else some (!decide (0<=y)||!decide (y<=h-1))).bind (λaT=>if aT=true then(some (-1)) else(some (af ((af (y*w))+x))))=some (oa w h x y):=by
    intro x y h1 h2 h3 h4;unfold oa
    by_cases hx:0<=x/\x<=w-1
    ·by_cases hy:0<=y/\y<=h-1
     ·have hl:=sS (w:=w) (h:=h) hx.1 U hy.1 U;have VT:=rW hc.1;have h5:0<=y*w:=nV hy.1 U;rw[ag (c:=gS w h/\_) ⟨hc.1,hx.1,by omega,hy.1,by omega⟩]
      rw[ah U,decide_eq_true hy.1,decide_eq_true hy.2];simp only[aD,mV,Bool.or_self,gj,if_false];rw[bg (x:=y*w) U U,bg U U]
     ·rw[ah (c:=gS w h/\_) U,ah U];have:(!decide (0<=y)||!decide (y<=h-1))=true:=by rw[<-Bool.not_and,<-Bool.decide_and];simp[hy]
      rw[this];rfl
    ·rw[ah (c:=gS w h/\_) U,ag U];rfl
   have e8:c/w-1=c/w+ -1:=U;have e9:c%w-1=c%w+ -1:=U;rw[ag (c:=bQ w h c/\_) ⟨hc,hs⟩];simp only[decide_eq_true hc,decide_eq_true hs,mV,gj,if_false,aD,qz hc.2.1,nF hc.2.1,e5,e6,e7,e1,e4];have Aa:side=0∨side=1∨side=2∨side=3∨side=4:=U;rcases Aa with rfl |rfl |rfl |rfl |rfl
   ·have:=fin (c%w) (c/w-1) U U U U;simp only[e8] at this;simpa[bD,dX,dY,e8] using this
   ·have:=fin (c%w+1) (c/w) U U U U;simpa[bD,dX,dY] using this
   ·have:=fin (c%w) (c/w+1) U U U U;simpa[bD,dX,dY,e2] using this
   ·have:=fin (c%w-1) (c/w) U U U U;simp only[e9] at this;simpa[bD,dX,dY,e3,e9,show af (c%w+ -1)=c%w+ -1 by rw[<-e9];exact e3] using this
   ·have:=fin (c%w) (c/w) U U U U;simpa[bD,dX,dY] using this
  ·rw[ah (c:=bQ w h c/\_) (λh=>hs h.2)];simp[hc,hs]
 ·rw[ah (c:=bQ w h c/\_) (λh=>hc h.1)];simp[hc]
def FZ (w h a b:Int):Nat->Int->Int
 |0,_=>5
 |n+1,s=>if bB w h a s=b then s else FZ w h a b n (s+1)
def Ea (w h a b:Int):Int:=if bQ w h a/\bQ w h b then FZ w h a b 5 0 else 5
theorem aj6 (w h a b:Int): ∀(n k:Nat) (s:Int),s+n=5->0<=s->n<k->ru.l0 k w h a b s=some (FZ w h a b n s):=by
 intro n
 induction n with
 |zero=>
  intro k s hs h0 hk;obtain⟨k,rfl⟩: ∃m,k=m+1:=⟨k-1,by omega⟩
  rw[ru.l0,ah U];rfl
 |succ n ih=>
  intro k s hs h0 hk;obtain⟨k,rfl⟩: ∃m,k=m+1:=⟨k-1,by omega⟩
  rw[ru.l0,ag U,F4];simp only[aD,FZ]
  by_cases he:bB w h a s=b
  ·simp[he]
  ·rw[ah (by simpa using he),ah he,bg U U]
   exact ih k (s+1) U U U
theorem aj5 (w h a b:Int):ru.f w h a b=some (Ea w h a b):=by
 unfold ru.f Ea;simp only[Wt,aD]
 by_cases ha:bQ w h a
 ·by_cases hb:bQ w h b
  ·rw[ag (c:=bQ w h a/\_) ⟨ha,hb⟩];simp only[decide_eq_true ha,decide_eq_true hb,mV,gj,if_false,aD];exact aj6 w h a b 5 fuel 0 U U (by rw[cI];omega)
  ·rw[ah (c:=bQ w h a/\_) (λh=>hb h.2)];simp[ha,hb]
 ·rw[ah (c:=bQ w h a/\_) (λh=>ha h.1)];simp[ha]
theorem NL {w h c:Int} (hc:bQ w h c):oa w h (c%w) (c/w)=c:=by
 have hp:=vF hc;unfold oa;rw[ag ⟨hc.1,hp⟩];have h1:=u_ c w;rw[mW] at h1;omega
theorem ajA {w h x y:Int} (hm:gS w h) (h1:0<=x) (h2:x<w) (h3:0<=y) (h4:y<h):bQ w h (oa w h x y)/\oa w h x y%w=x/\oa w h x y/w=y:=by
 unfold oa;rw[ag ⟨hm,h1,h2,h3,h4⟩];have:=sS h1 h2 h3 h4;exact⟨⟨hm,this⟩,qg h1 h2⟩
theorem F3 {w h c side:Int} (hc:bQ w h c) (h0:0<=side) (h4:side<=4):
 (bB w h c side= -1/\ ¬(0<=c%w+dX side/\c%w+dX side<w/\0<=c/w+dY side/\c/w+dY side<h))∨
 (bQ w h (bB w h c side)/\bB w h c side%w=c%w+dX side/\bB w h c side/w=c/w+dY side/\
   0<=c%w+dX side/\c%w+dX side<w/\0<=c/w+dY side/\c/w+dY side<h):=by
 have e:bB w h c side=oa w h (c%w+dX side) (c/w+dY side):=by unfold bB;rw[ag ⟨hc,h0,h4⟩]
 rw[e]
 by_cases hx:0<=c%w+dX side/\c%w+dX side<w/\0<=c/w+dY side/\c/w+dY side<h
 ·obtain⟨a,b,d,f⟩:=hx;have:=ajA hc.1 a b d f;exact .inr ⟨this.1,this.2.1,this.2.2,a,b,d,f⟩
 ·refine .inl ⟨?_,hx⟩;unfold oa;rw[ah (λh=>hx h.2)]
theorem aj4 (w h a b:Int): ∀(n:Nat) (s t:Int),s+n=5->s<=t->t<5->bB w h a t=b->(∀u,s<=u->u<t->bB w h a u≠b)->FZ w h a b n s=t:=by
 intro n
 induction n with
 |zero=>intro s t h1 h2 h3;omega
 |succ n ih=>
  intro s t h1 h2 h3 h4 h5;simp only[FZ]
  by_cases he:s=t
  ·subst he;rw[ag h4]
  ·rw[ah (h5 s U U)];exact ih (s+1) t U U h3 h4 (λu hu=>h5 u U)
theorem akt {w h c s t:Int} (hc:bQ w h c) (s0:0<=s) (s4:s<=4) (t0:0<=t) (t4:t<=4) (hs:bQ w h (bB w h c s)) (he:bB w h c t=bB w h c s):s=t:=by
 have Aa:s=0∨s=1∨s=2∨s=3∨s=4:=U;have mH:t=0∨t=1∨t=2∨t=3∨t=4:=U;rcases F3 hc s0 s4 with⟨h1,_⟩ |⟨_,b1,b2,_⟩
 ·rw[h1] at hs;obtain⟨_,h2,_⟩:=hs;omega
 ·rcases F3 hc t0 t4 with⟨h1,_⟩ |⟨_,d1,d2,_⟩
  ·rw[he] at h1;rw[h1] at hs;obtain⟨_,h2,_⟩:=hs;omega
  ·rw[he,b1] at d1;rw[he,b2] at d2;unfold dX at d1;unfold dY at d2;rcases Aa with rfl |rfl |rfl |rfl |rfl<;>rcases mH with rfl |rfl |rfl |rfl |rfl<;>simp at d1 d2⊢ <;>omega
theorem YE {w h c s:Int} (hc:bQ w h c) (s0:0<=s) (s4:s<=4) (hs:bQ w h (bB w h c s)):Ea w h c (bB w h c s)=s:=by
 unfold Ea;rw[ag ⟨hc,hs⟩];exact aj4 w h c _ 5 0 s U s0 U J (λu h1 h2 he=>by
  have:=akt hc s0 s4 h1 U hs he;omega)
theorem aks {w h c:Int} (hc:bQ w h c):bB w h c 4=c:=by
 unfold bB;rw[ag ⟨hc,by omega,by omega⟩]
 simpa[dX,dY] using NL hc
def fp (w h c side:Int):Int:=if bB w h c side<0∨aQ w h (bB w h c side)=aQ w h c then-1 else bB w h c side
theorem Xs (w h c side:Int):zI.f w h c side=some (fp w h c side):=by
 unfold zI.f fp;rw[F4,aD]
 by_cases h1:bB w h c side<0
 ·rw[ag h1,ag (Or.inl h1)];rfl
 ·rw[ah h1,si,aD,si,aD]
  by_cases h2:aQ w h (bB w h c side)=aQ w h c
  ·rw[ag (Or.inr h2),h2];simp
  ·rw[ah (c:=_∨_) (λq=>q.elim h1 h2)];simp[h2]
theorem aih {w h c side:Int} (hn: ¬(0<=side/\side<=3)):fp w h c side= -1:=by
 unfold fp
 by_cases hc:bQ w h c
 ·by_cases h4:side=4
  ·subst h4;rw[aks hc,ag (Or.inr rfl)]
  ·have:bB w h c side= -1:=by unfold bB;rw[ah U]
   rw[this,ag (Or.inl U)]
 ·have:bB w h c side= -1:=by unfold bB;rw[ah (λq=>hc q.1)]
  rw[this,ag (Or.inl U)]
theorem IV {w h c side:Int} (h0:0<=fp w h c side):bQ w h c/\0<=side/\side<=3/\bQ w h (fp w h c side)/\fp w h c side=bB w h c side/\aQ w h (fp w h c side)≠aQ w h c:=by
 have Dk:0<=side/\side<=3:=by
  by_cases hs:0<=side/\side<=3
  ·exact hs
  ·rw[aih hs] at h0;omega
 by_cases hq:bB w h c side<0∨aQ w h (bB w h c side)=aQ w h c
 ·unfold fp at h0;rw[ag hq] at h0;omega
 ·have e:fp w h c side=bB w h c side:=by unfold fp;rw[ah hq]
  have hc:bQ w h c:=by
   by_cases hc:bQ w h c
   ·exact hc
   ·have:bB w h c side= -1:=by unfold bB;rw[ah (λq=>hc q.1)]
    omega
  rcases F3 hc Dk.1 (by omega:side<=4) with⟨h1,_⟩ |⟨h1,_⟩
  ·omega
  ·exact⟨hc,Dk.1,Dk.2,e▸h1,e,λq=>hq (.inr (e▸q))⟩
theorem Hc {w h s l:Int} (hs:bE w h s) (h0:0<=l) (h1:l<(az w h s).1*(az w h s).2):
 bQ w h (cn w h s l)/\cn w h s l%w=16*(s%(bq w h).1)+l%(az w h s).1/\cn w h s l/w=16*(s/(bq w h).1)+l/(az w h s).1:=by
 obtain⟨a1,a2,a3,a4,a5,a6⟩:=wE hs h0 h1;have hp:=uQ hs;have e:cn w h s l=(16*(s/(bq w h).1)+l/(az w h s).1)*w+(16*(s%(bq w h).1)+l%(az w h s).1):=by unfold cn;rw[ag ⟨hs,h0,h1⟩]
 have:=sS (h:=h) (x:=16*(s%(bq w h).1)+l%(az w h s).1) (y:=16*(s/(bq w h).1)+l/(az w h s).1) U a5 U a6;rw[e];exact⟨⟨uP hs,this⟩,qg U a5⟩
theorem YF {w h s:Int} (hs:bE w h s):(az w h s).1=min 16 (w-16*(s%(bq w h).1))/\(az w h s).2=min 16 (h-16*(s/(bq w h).1)):=by
 unfold az;rw[ag hs];exact⟨J,J⟩
theorem FV {w h s l:Int} (hs:bE w h s) (h0:0<=l) (h1:l<(az w h s).1*(az w h s).2):aQ w h (cn w h s l)=s:=by
 obtain⟨hc,e1,e2⟩:=Hc hs h0 h1;obtain⟨a1,a2,a3,a4,a5,a6⟩:=wE hs h0 h1;obtain⟨z1,z2,z3,z4⟩:=qw hs;unfold aQ;rw[ag hc,e1,e2];have q1:(16*(s/(bq w h).1)+l/(az w h s).1)/16=s/(bq w h).1:=U;have q2:(16*(s%(bq w h).1)+l%(az w h s).1)/16=s%(bq w h).1:=U;rw[q1,q2];have:=u_ s (bq w h).1;rw[mW] at this;exact this
def BU (w h s side:Int):Prop:=if side=0 then 1<=s/(bq w h).1 else if side=1 then s%(bq w h).1+1<(bq w h).1 else if side=2 then s/(bq w h).1+1<(bq w h).2 else 1<=s%(bq w h).1
def vI (tw th l side:Int):Prop:=if side=0 then l/tw=0 else if side=1 then l%tw=tw-1 else if side=2 then l/tw=th-1 else l%tw=0
instance (w h s side:Int):Decidable (BU w h s side):=by unfold BU;infer_instance
instance (tw th l side:Int):Decidable (vI tw th l side):=by unfold vI;infer_instance
theorem Ma {w h s l side:Int} (hs:bE w h s) (h0:0<=l) (h1:l<(az w h s).1*(az w h s).2) (s0:0<=side) (s3:side<=3):
 0<=fp w h (cn w h s l) side↔BU w h s side/\vI (az w h s).1 (az w h s).2 l side:=by
 obtain⟨hc,e1,e2⟩:=Hc hs h0 h1;obtain⟨a1,a2,a3,a4,a5,a6⟩:=wE hs h0 h1;obtain⟨z1,z2,z3,z4⟩:=qw hs;obtain⟨y1,y2⟩:=YF hs;obtain⟨p1,p2,p3,p4⟩:=uQ hs;have Ab:=FV hs h0 h1;have hm:=uP hs;have eS:(bq w h).1=(w+15)/16/\(bq w h).2=(h+15)/16:=by unfold bq;rw[ag hm];exact⟨J,J⟩
 have Aa:side=0∨side=1∨side=2∨side=3:=U;rcases F3 hc s0 (by omega:side<=4) with⟨b1,b2⟩ |⟨b1,b2,b3,b4,b5,b6,b7⟩
 ·have:fp w h (cn w h s l) side= -1:=by unfold fp;rw[b1,ag (Or.inl U)]
  rw[this];refine⟨λq=>by omega,λq=>?_⟩
  exfalso;apply b2;rw[e1,e2];obtain⟨q1,q2⟩:=q;unfold BU at q1;unfold vI at q2;unfold dX dY;rcases Aa with rfl |rfl |rfl |rfl<;>simp at q1 q2⊢ <;>omega
 ·have b8: ¬bB w h (cn w h s l) side<0:=by have:=b1.2;omega
  have key:aQ w h (bB w h (cn w h s l) side)=s↔(16*(s/(bq w h).1)+l/(az w h s).1+dY side)/16=s/(bq w h).1/\(16*(s%(bq w h).1)+l%(az w h s).1+dX side)/16=s%(bq w h).1:=by
   have rT:=Eb b1;have vv:=qg (a:=(bq w h).1) (y:=bB w h (cn w h s l) side/w/16) rT.1 rT.2.1;have e:aQ w h (bB w h (cn w h s l) side)=bB w h (cn w h s l) side/w/16*(bq w h).1+bB w h (cn w h s l) side%w/16:=by unfold aQ;rw[ag b1]
   rw[<-e,b2,b3,e1,e2] at vv;constructor
   ·intro q;rw[q] at vv;exact⟨vv.2.symm,vv.1.symm⟩
   ·rintro⟨q1,q2⟩;rw[e,b2,b3,e1,e2,q1,q2];have:=u_ s (bq w h).1;rw[mW] at this;exact this
  rw[e1] at b4 b5;rw[e2] at b6 b7;unfold fp;rw[Ab]
  by_cases hq:aQ w h (bB w h (cn w h s l) side)=s
  ·rw[ag (Or.inr hq)];obtain⟨k1,k2⟩:=key.mp hq;refine⟨λq=>by omega,λq=>?_⟩
   exfalso;obtain⟨q1,q2⟩:=q;unfold BU at q1;unfold vI at q2;unfold dX at k2;unfold dY at k1;rcases Aa with rfl |rfl |rfl |rfl<;>simp at q1 q2 k1 k2<;>omega
  ·rw[ah (c:=_∨_) (λq=>q.elim b8 hq)];refine⟨λ_=>?_,λ_=>by omega⟩
   rw[key] at hq;unfold BU vI;unfold dX at hq b4 b5;unfold dY at hq b6 b7;rcases Aa with rfl |rfl |rfl |rfl<;>simp at hq b4 b5 b6 b7⊢ <;>omega
def zA (w h c:Int):Nat->Int->Bool
 |0,_=>false
 |n+1,j=>decide (0<=fp w h c j)||zA w h c n (j+1)
def BT (w h s l:Int):Bool:=zA w h (cn w h s l) 4 0
def vH (w h s:Int) (n:Nat):List Int:=((List.range n).filter (λl:Nat=>BT w h s (l:Int))).map (λl:Nat=>cn w h s (l:Int))
def q_ (w h s:Int):List Int:=vH w h s ((az w h s).1*(az w h s).2).toNat
theorem aca (w h s:Int) (n:Nat):vH w h s (n+1)=if BT w h s (n:Int)=true then vH w h s n++[cn w h s (n:Int)] else vH w h s n:=by
 unfold vH;rw[List.range_succ,List.filter_append,List.map_append]
 by_cases h:BT w h s (n:Int)=true
 ·rw[ag h];simp[h]
 ·rw[ah h];simp[h]
theorem SR (w h s:Int) (n:Nat):(vH w h s n).length<=n:=by
 unfold vH;rw[List.length_map];have:=EE (λl:Nat=>BT w h s (l:Int)) (List.range n);simpa using this
theorem xv (w h s:Int):0<=(az w h s).1*(az w h s).2/\(az w h s).1*(az w h s).2<=256:=by
 have hz:=size_le w h s;have:(az w h s).1*(az w h s).2<=16*16:=kc hz.1 hz.2.2.1 hz.2.1 hz.2.2.2;exact⟨nV hz.1 hz.2.2.1,by omega⟩
theorem Q3 {w h s l:Int} (h0:0<=l) (h1:l<(az w h s).1*(az w h s).2):bE w h s:=by
 by_cases hs:bE w h s
 ·exact hs
 ·have:az w h s=(0,0):=by unfold az;rw[ah hs]
  rw[this] at h1;simp at h1;omega
def xp (tw th side i:Int):Int:=if side=2 then(th-1)*tw+i else if side=0 then i else if side=1 then tw-1+i*tw else i*tw
def ra (tw th side:Int):Int:=if side=2∨side=0 then tw else if side=1∨side=3 then th else 0
def qZ (tw th side:Int) (n:Nat):List Int:=(List.range n).map (λi:Nat=>xp tw th side (i:Int))
def tD (tw th side:Int):List Int:=qZ tw th side (ra tw th side).toNat
theorem J6 (tw th side:Int) (n:Nat):qZ tw th side (n+1)=qZ tw th side n++[xp tw th side (n:Int)]:=by
 unfold qZ;rw[List.range_succ,List.map_append];rfl
theorem GG (tw th side:Int) (n:Nat):(qZ tw th side n).length=n:=by simp[qZ]
theorem aar {tw th:Int} (side:Int) (t0:0<=tw) (t1:tw<=16) (u0:0<=th) (u1:th<=16):fG.f tw th side=some (tD tw th side):=by
 unfold fG.f tD;have hb: ∀i:Int,0<=i->i<=16->0<=i*tw/\i*tw<=256:=λi i0 i1=>⟨nV i0 t0,by have:=kc i0 t0 i1 t1;omega⟩
 by_cases h2:side=2
 ·subst h2;rw[ag (by rfl)]
  have HC: -16<=(th-1)*tw/\(th-1)*tw<=256:=by
   have:=hb th u0 u1;rw[Int.sub_mul,Int.one_mul];omega
  have key: ∀(n k:Nat) (i:Int),i+n=tw->0<=i->n<k->fG.l0 k tw th (qZ tw th 2 i.toNat) i=some (qZ tw th 2 tw.toNat):=by
   intro n
   induction n with
   |zero=>
    intro k i hi h0 hk;obtain⟨k,rfl⟩:=bl hk;rw[fG.l0,ah U];rw[show i=tw by omega]
   |succ n ih=>
    intro k i hi h0 hk;obtain⟨k,rfl⟩:=bl hk;rw[fG.l0,ag U,ag (by rw[GG];omega),bg (x:=th-1) U U,bg (x:=(th-1)*tw) U U,bg U U,bg U U]
    have:=ih k (i+1) U U U;rw[show(i+1).toNat=i.toNat+1 by omega,J6,show((i.toNat:Nat):Int)=i by omega] at this
    exact this
  exact key tw.toNat fuel 0 U U (by rw[cI];omega)
 rw[ah (by simpa using h2)]
 by_cases h0:side=0
 ·subst h0;rw[ag (by rfl)]
  have key: ∀(n k:Nat) (i:Int),i+n=tw->0<=i->n<k->fG.l1 k tw (qZ tw th 0 i.toNat) i=some (qZ tw th 0 tw.toNat):=by
   intro n
   induction n with
   |zero=>
    intro k i hi h0 hk;obtain⟨k,rfl⟩:=bl hk;rw[fG.l1,ah U];rw[show i=tw by omega]
   |succ n ih=>
    intro k i hi h0 hk;obtain⟨k,rfl⟩:=bl hk;rw[fG.l1,ag U,ag (by rw[GG];omega),bg U U,bg U U,Int.zero_add]
    have:=ih k (i+1) U U U;rw[show(i+1).toNat=i.toNat+1 by omega,J6,show((i.toNat:Nat):Int)=i by omega] at this
    exact this
  exact key tw.toNat fuel 0 U U (by rw[cI];omega)
 rw[ah (by simpa using h0)]
 by_cases h1:side=1
 ·subst h1;rw[ag (by rfl)]
  have key: ∀(n k:Nat) (i:Int),i+n=th->0<=i->n<k->fG.l2 k tw th (qZ tw th 1 i.toNat) i=some (qZ tw th 1 th.toNat):=by
   intro n
   induction n with
   |zero=>
    intro k i hi h0 hk;obtain⟨k,rfl⟩:=bl hk;rw[fG.l2,ah U];rw[show i=th by omega]
   |succ n ih=>
    intro k i hi h0 hk;obtain⟨k,rfl⟩:=bl hk;have:=hb i U U;rw[fG.l2,ag U,ag (by rw[GG];omega),bg (x:=tw-1) U U,bg (x:=i*tw) U U,bg U U,bg U U]
    have:=ih k (i+1) U U U;rw[show(i+1).toNat=i.toNat+1 by omega,J6,show((i.toNat:Nat):Int)=i by omega] at this
    exact this
  exact key th.toNat fuel 0 U U (by rw[cI];omega)
 rw[ah (by simpa using h1)]
 by_cases h3:side=3
 ·subst h3;rw[ag (by rfl)]
  have key: ∀(n k:Nat) (i:Int),i+n=th->0<=i->n<k->fG.l3 k tw th (qZ tw th 3 i.toNat) i=some (qZ tw th 3 th.toNat):=by
   intro n
   induction n with
   |zero=>
    intro k i hi h0 hk;obtain⟨k,rfl⟩:=bl hk;rw[fG.l3,ah U];rw[show i=th by omega]
   |succ n ih=>
    intro k i hi h0 hk;obtain⟨k,rfl⟩:=bl hk;have:=hb i U U;rw[fG.l3,ag U,ag (by rw[GG];omega),bg (x:=i*tw) U U,Int.zero_add,bg U U,bg U U]
    have:=ih k (i+1) U U U;rw[show(i+1).toNat=i.toNat+1 by omega,J6,show((i.toNat:Nat):Int)=i by omega] at this
    exact this
  exact key th.toNat fuel 0 U U (by rw[cI];omega)
 rw[ah (by simpa using h3)]
 have:ra tw th side=0:=by unfold ra;rw[ah U,ah U]
 rw[this];rfl
theorem ais {tw th side i:Int} (t0:1<=tw) (u0:1<=th) (i0:0<=i) (i1:i<ra tw th side):0<=xp tw th side i/\xp tw th side i<tw*th/\vI tw th (xp tw th side i) side:=by
 have hb: ∀j:Int,0<=j->j<=th-1->0<=j*tw/\j*tw+tw<=tw*th:=λj j0 j1=>⟨nV j0 U,by
  have:=Cw j1 (by omega:0<=tw)
  rw[Int.sub_mul,Int.one_mul,mW th] at this;omega⟩
 unfold ra at i1;unfold xp vI
 by_cases h2:side=2
 ·subst h2;rw[ag (Or.inl J)] at i1;simp only[if_true];have:=hb (th-1) U U;have q:=qg (y:=th-1) i0 i1;simp only[show ¬((2:Int)=0) by omega,show ¬((2:Int)=1) by omega,if_false]
  exact⟨by omega,by omega,q.2⟩
 by_cases h0:side=0
 ·subst h0;rw[ag (Or.inr J)] at i1;have:=hb 0 U U;simp only[if_true,show ¬((0:Int)=2) by omega,if_false]
  exact⟨i0,by omega,Int.ediv_eq_zero_of_lt i0 i1⟩
 by_cases h1:side=1
 ·subst h1;rw[ah U,ag (Or.inl J)] at i1;simp only[show ¬((1:Int)=2) by omega,show ¬((1:Int)=0) by omega,if_false,if_true]
  have:=hb i U U;have q:=qg (a:=tw) (x:=tw-1) (y:=i) U U;rw[Int.add_comm];exact⟨by omega,by omega,q.1⟩
 ·rw[ah U] at i1
  by_cases h3:side=3
  ·subst h3;rw[ag (Or.inr J)] at i1;have:=hb i U U;simp only[show ¬((3:Int)=2) by omega,show ¬((3:Int)=0) by omega,show ¬((3:Int)=1) by omega,if_false]
   exact⟨by omega,by omega,Int.mul_emod_left _ _⟩
  ·rw[ah U] at i1;omega
theorem ahq {tw th side l:Int} (t0:1<=tw) (u0:1<=th) (s0:0<=side) (s3:side<=3):l∈tD tw th side↔0<=l/\l<tw*th/\vI tw th l side:=by
 constructor
 ·intro hm;unfold tD qZ at hm;obtain⟨i,hi,rfl⟩:=List.mem_map.mp hm;have tg:=List.mem_range.mp hi;exact ais t0 u0 U U
 ·rintro⟨l0,l1,oI⟩;have a1:0<=l%tw:=Int.emod_nonneg _ U;have a2:l%tw<tw:=A9 _ U;have a3:0<=l/tw:=Int.ediv_nonneg l0 U;have a4:l/tw<th:=Int.ediv_lt_of_lt_mul U (by rw[mW];exact l1)
  have a5:=u_ l tw;rw[mW] at a5;have hc:side=0∨side=1∨side=2∨side=3:=U;have go: ∀i:Int,0<=i->i<ra tw th side->xp tw th side i=l->l∈tD tw th side:=λi i0 i1 e=>by
   unfold tD qZ;exact List.mem_map.mpr ⟨i.toNat,List.mem_range.mpr U,by rw[show((i.toNat:Nat):Int)=i by omega];exact e⟩
  unfold vI at oI;rcases hc with rfl |rfl |rfl |rfl
  ·simp only[if_true] at oI;exact go (l%tw) a1 a2 (by unfold xp;rw[oI] at a5;simp;omega)
  ·simp at oI;exact go (l/tw) a3 a4 (by unfold xp;rw[oI] at a5;simp;omega)
  ·simp at oI;exact go (l%tw) a1 a2 (by unfold xp;rw[oI] at a5;simp;omega)
  ·simp at oI;exact go (l/tw) a3 a4 (by unfold xp;rw[oI] at a5;simp;omega)
theorem acf (v:List Int) (hv:v.length<=1000) (N:Int) (bZ: ∀y∈v,0<=y/\y<N): ∀(n k:Nat) (i:Int) (x:List Bool),i+n=v.length->0<=i->n<k->(x.length:Int)=N->
 ∃x',gX.l1 k v x i=some x'/\(x'.length:Int)=N/\ ∀l:Int,0<=l->l<N->rd x' l=(rd x l||decide (l∈v.drop i.toNat)):=by
 intro n
 induction n with
 |zero=>
  intro k i x hi h0 hk hx;obtain⟨k,rfl⟩:=bl hk;refine⟨x,by rw[gX.l1,ah U],hx,λl l0 l1=>?_⟩
  rw[A_ U];simp
 |succ n ih=>
  intro k i x hi h0 hk hx;obtain⟨k,rfl⟩:=bl hk;have hy:=bZ _ (dR h0 (by omega:i<(v.length:Int)))
  obtain⟨x',e,hl,hr⟩:=ih k (i+1) (aG x (ax (rd v i)) true) U U U (by simpa using hx)
  refine⟨x',by rw[gX.l1,ag U,ag U,ag U,bg U U];exact e,hl,λl l0 l1=>?_⟩
  rw[hr l l0 l1,lR hy.1 U l0,CV h0 U]
  by_cases hq:l=rd v i
  ·rw[ag hq,hq];simp
  ·rw[ah hq];simp[hq]
theorem acg (w h s:Int) (x:List Bool) (hx:(x.length:Int)=(az w h s).1*(az w h s).2) (hr: ∀l:Int,0<=l->l<x.length->rd x l=BT w h s l): ∀(n k:Nat) (i:Int),i+n=x.length->0<=i->n<k->
 gX.l2 k w h s x (vH w h s i.toNat) i=some (q_ w h s):=by
 have hz:=xv w h s;intro n
 induction n with
 |zero=>
  intro k i hi h0 hk;obtain⟨k,rfl⟩:=bl hk;rw[gX.l2,ah U];unfold q_;rw[show i=(az w h s).1*(az w h s).2 by omega]
 |succ n ih=>
  intro k i hi h0 hk;obtain⟨k,rfl⟩:=bl hk;have hle:=SR w h s i.toNat;have:=ih k (i+1) U U U;rw[show(i+1).toNat=i.toNat+1 by omega,aca,show((i.toNat:Nat):Int)=i by omega] at this
  rw[gX.l2,ag U,ag U,hr i h0 U,bg U U]
  by_cases hb:BT w h s i=true
  ·rw[ag hb] at this;rw[ag hb,KI,aD,ag U];exact this
  ·rw[ah hb] at this;rw[ah hb];exact this
theorem YD {j:Int} (h0:0<=j) (h3:j<=3):rd ([rd ([0,1,2,3]:List Int) 0,rd ([0,1,2,3]:List Int) 1,rd ([0,1,2,3]:List Int) 2,rd ([0,1,2,3]:List Int) 3]:List Int) j=j:=by
 have:j=0∨j=1∨j=2∨j=3:=U;rcases this with rfl |rfl |rfl |rfl<;>rfl
theorem RZ (w h c:Int): ∀(n:Nat) (j:Int),zA w h c (n+1) j=(zA w h c n j||decide (0<=fp w h c (j+n))):=by
 intro n
 induction n with
 |zero=>intro j;simp[zA]
 |succ n ih=>
  intro j;rw[zA,ih (j+1),zA,Bool.or_assoc];rw[show j+1+(n:Int)=j+((n+1:Nat):Int) by omega]
theorem ace (w h s:Int): ∀(n k:Nat) (j:Int) (x:List Bool),j+n=4->0<=j->n<k->(x.length:Int)=(az w h s).1*(az w h s).2->
 (∀l:Int,0<=l->l<x.length->rd x l=zA w h (cn w h s l) j.toNat 0)->
 gX.l0 k w h s (az w h s) [0,1,2,3] x j=some (q_ w h s):=by
 have hz:=xv w h s;have BA:=size_le w h s;intro n
 induction n with
 |zero=>
  intro k j x hj h0 hk hx hr;obtain⟨k,rfl⟩:=bl hk;rw[gX.l0,ah U];have e:j.toNat=4:=U;rw[e] at hr;exact acg w h s x hx hr x.length fuel 0 U U (by rw[cI];omega)
 |succ n ih=>
  intro k j x hj h0 hk hx hr;obtain⟨k,rfl⟩:=bl hk;rw[gX.l0,ag U,YD h0 U,aar j BA.1 BA.2.1 BA.2.2.1 BA.2.2.2,ag bf,bg U U];rw[aD]
  by_cases hs:bE w h s
  ·have LA:=qw hs;have hlen:((tD (az w h s).1 (az w h s).2 j).length:Int)=ra (az w h s).1 (az w h s).2 j:=by
    unfold tD;rw[GG];unfold ra;split
    ·omega
    ·split<;>omega
   have hlp:1<=ra (az w h s).1 (az w h s).2 j/\ra (az w h s).1 (az w h s).2 j<=16:=by
    unfold ra;split
    ·omega
    ·rw[ag U];omega
   have jE:=λl=>ahq (l:=l) LA.1 LA.2.2.1 h0 (by omega:j<=3)
   have h0m:=dR (a:=tD (az w h s).1 (az w h s).2 j) (i:=0) U U;obtain⟨f0,f1,f2⟩:=(jE _).mp h0m;rw[ah (by rw[beq_iff_eq];omega),ag U,KI,aD,Xs,aD,aD]
   have oJ:=Ma hs f0 f1 h0 (by omega:j<=3)
   by_cases hn:fp w h (cn w h s (rd (tD (az w h s).1 (az w h s).2 j) 0)) j<0
   ·have bD: ¬BU w h s j:=λq=>by have:=oJ.mpr ⟨q,f2⟩;omega
    rw[ag (by simpa using hn),aD]
    refine ih k (j+1) x U U U hx (λl l0 l1=>?_);rw[hr l l0 l1,show(j+1).toNat=j.toNat+1 by omega,RZ,Int.zero_add,show((j.toNat:Nat):Int)=j by omega]
    rw[decide_eq_false (λq=>bD ((Ma hs l0 U h0 (by omega:j<=3)).mp q).1)];simp
   ·have hed:BU w h s j:=(oJ.mp U).1;obtain⟨x',e,hl,hq⟩:=acf (tD (az w h s).1 (az w h s).2 j) U _ (λy hy=>⟨((jE y).mp hy).1,((jE y).mp hy).2.1⟩) (tD (az w h s).1 (az w h s).2 j).length fuel 0 x U U (by rw[cI];omega) hx
    rw[ah (by simpa using hn),e,aD]
    refine ih k (j+1) x' U U U hl (λl l0 l1=>?_);rw[hq l l0 U,hr l l0 U,show(j+1).toNat=j.toNat+1 by omega,RZ,Int.zero_add,show((j.toNat:Nat):Int)=j by omega]
    congr 1
    simp only[Int.toNat_zero,List.drop_zero,decide_eq_decide];rw[jE,Ma hs l0 U h0 (by omega:j<=3)]
    exact⟨λq=>⟨hed,q.2.2⟩,λq=>⟨l0,by omega,q.2⟩⟩
  ·have e0:az w h s=(0,0):=by unfold az;rw[ah hs]
   have e1:tD (az w h s).1 (az w h s).2 j=[]:=by
    unfold tD;rw[e0];have:ra (0,0).1 (0,0).2 j=0:=by unfold ra;split<;>simp
    rw[this];rfl
   rw[e1,ag aX,aD,ag J,aD];refine ih k (j+1) x U U U hx (λl l0 l1=>?_);rw[e0] at hx;simp at hx;subst hx;simp at l1;omega
theorem acb (w h s:Int):gX.f w h s=some (q_ w h s):=by
 unfold gX.f;have hz:=xv w h s;have e:zJ.f=some [0,1,2,3]:=rfl;rw[F0,aD,bg (x:=_*_) U U,ag U,e,aD];refine ace w h s 4 fuel 0 _ U U (by rw[cI];omega) bf (λl l0 l1=>?_)
 rw[uC l0 (by simpa using l1)];rfl
theorem Gb {x:Int} (h1:0<=x) (h2:x<=255):bP x=x:=by
 unfold bP IntKind.wrap IntKind.signed IntKind.bits;simp;omega
theorem sY:fuel=18446744073709551616:=by unfold fuel;rfl
theorem BM {α:Type} [Inhabited α] {L:List α} {i c:Int} {v:α} (h0:0<=i) (h1:i<L.length) (c0:0<=c):rd (aG L i.toNat v) c=if c=i then v else rd L c:=by
 unfold rd
 by_cases hc:c=i
 ·subst hc;rw[ag rfl];simp[List.getD,show c.toNat<L.length by omega]
 ·rw[ah hc];have:i.toNat≠c.toNat:=U;simp[List.getD,this]
theorem Yg {α:Type} [Inhabited α] {L:List α} {v:α} {c:Int} (c0:0<=c) (h:c<=L.length):rd (L++[v]) c=if c=L.length then v else rd L c:=by
 unfold rd
 by_cases hc:c=L.length
 ·rw[ag hc,hc];simp[List.getD]
 ·rw[ah hc];simp[List.getD,List.getElem?_append_left (show c.toNat<L.length by omega)]
theorem Td {α:Type} [Inhabited α] {a:List α} {i:Int} (h0:0<=i) (h1:i<a.length):a.drop i.toNat=rd a i::a.drop (i+1).toNat:=by
 have aS:i.toNat<a.length:=U;rw[jc aS,show(i+1).toNat=i.toNat+1 by omega]
 exact List.drop_eq_getElem_cons aS
theorem tz {α:Type} [Inhabited α] {a:List α} {i:Int} (h0:0<=i) (h1:i<a.length):rd a i∈a:=by
 rw[jc U];exact List.getElem_mem _
theorem SU (s:List Int) (h:s.length<=1099511627776):o_.f s=some s:=by
 unfold o_.f;rw[ag (by simpa using h)];simp
theorem ags (s:List Int) (v:Int) (hb:s.length<=4611686018427387904): ∀(n k:Nat) (i:Int),i+n=s.length->0<=i->n<k->
 ∃r,su.l0 k s v i=some r/\(0<=r↔v∈s.drop i.toNat):=by
 intro n
 induction n with
 |zero=>
  intro k i hi h0 hk;obtain⟨k,rfl⟩: ∃q,k=q+1:=⟨k-1,by omega⟩
  rw[su.l0,ah U,A_ U];exact⟨_,J,by simp⟩
 |succ n ih=>
  intro k i hi h0 hk;obtain⟨k,rfl⟩: ∃q,k=q+1:=⟨k-1,by omega⟩
  rw[su.l0,ag U,ag U,Td h0 U]
  by_cases he:v=rd s i
  ·rw[ag (by simpa using he)]
   exact⟨_,J,by simp[he,h0]⟩
  ·rw[ah (by simpa using he),bg U U]
   obtain⟨r,h1,h2⟩:=ih k (i+1) U U U;exact⟨r,h1,by rw[h2];simp[he]⟩
theorem NR (s:List Int) (v:Int) (hb:s.length<4611686018427387904):xx.f s v=some (decide (v∈s)):=by
 unfold xx.f su.f;obtain⟨r,h1,h2⟩:=ags s v U s.length fuel 0 U U (by rw[sY];omega)
 rw[h1,aD]
 congr 1
 rw[qC];simpa using h2
abbrev rC (m:aJ):Prop:=gS m.W m.H/\(m.C.length:Int)=m.W*m.H/\0∉m.C
theorem Sm (m:aJ) (hb:m.C.length<4611686018427387904):zD.f m=some (decide (rC m)):=by
 unfold zD.f;rw[An]
 by_cases hm:gS m.W m.H
 ·have hp:=rW hm;rw[bg (x:=m.W*m.H) U U,NR _ _ hb]
  by_cases hl:(m.C.length:Int)=m.W*m.H
  ·simp[hm,hl]
  ·simp[hl]
 ·simp[hm]
theorem aaq {x:List Int} {v:Int} (h: ∀c:Int,0<=c->c<x.length->rd x c=v):x=cy x.length v:=by
 rw[List.eq_replicate_iff];refine⟨J,λb hb=>?_⟩
 obtain⟨i,hi,rfl⟩:=List.getElem_of_mem hb;have:=h i U U;rw[jc (by simpa using hi)] at this
 simpa using this
theorem ahT (m:aJ) (e:Int) (v2:List Int) (v3:Int×Int) (he:0<=e/\e<=4611686018427387904) (N:Nat) (hN:(cy (ax (af (v3.1*v3.2))) (0:Int)).length=N) (hb:N<=1000000):
 ∀(n k:Nat) (x:List Int) (i:Int),x.length=N->i+n=N->0<=i->n<k->(∀c:Int,0<=c->c<i->rd x c=e+1)->
 mC.l0 k m e v2 v3 x i=some (some (bx.mk (aJ.mk m.W m.H v2) (e+1) (cy N (e+1)))):=by
 intro n
 induction n with
 |zero=>
  intro k x i hx hi h0 hk ha;obtain⟨k,rfl⟩: ∃q,k=q+1:=⟨k-1,by omega⟩
  rw[mC.l0,hN,ah U,bg U U];have:=aaq (x:=x) (v:=e+1) (λc c0 c1=>ha c c0 U);rw[hx] at this;rw[this]
 |succ n ih=>
  intro k x i hx hi h0 hk ha;obtain⟨k,rfl⟩: ∃q,k=q+1:=⟨k-1,by omega⟩
  rw[mC.l0,hN,ag U,ag U,bg (x:=e+1) U U,bg (x:=i+1) U U];refine ih k _ (i+1) (by simpa using hx) U U U (λc c0 c1=>?_)
  rw[BM h0 U c0]
  by_cases hc:c=i
  ·rw[ag hc]
  ·rw[ah hc];exact ha c c0 U
def KC (m:aJ) (e:Int):Option bx:=if rC m/\0<=e/\e<=4611686018427387904 then some (bx.mk m (e+1) (cy (dB m.W m.H).toNat (e+1))) else none
theorem adG (m:aJ) (e:Int) (hb:m.C.length<=1099511627776):mC.f m e=some (KC m e):=by
 unfold mC.f KC;rw[Sm m U]
 by_cases h:rC m/\0<=e/\e<=4611686018427387904
 ·have hc:=oE m.W m.H;have hs:af ((bq m.W m.H).1*(bq m.W m.H).2)=dB m.W m.H:=bg (by unfold dB at hc;omega) (by unfold dB at hc;omega)
  simp only[aD,decide_eq_true h.1,mV,Bool.false_or];rw[ah bf,ag h,SU _ hb,Ed];simp only[aD];rw[hs,ag U];exact ahT m e m.C _ h.2 (dB m.W m.H).toNat (by rw[hs];simp) U (dB m.W m.H).toNat fuel _ 0 aX U U (by rw[sY];omega) (λc c0 c1=>by omega)
 ·rw[ah h]
  by_cases h1:rC m
  ·have: ¬(0<=e/\e<=4611686018427387904):=λq=>h ⟨h1,q⟩
   simp only[aD,decide_eq_true h1,mV,Bool.false_or];rw[ag bf]
  ·simp only[aD,decide_eq_false h1,vZ,Bool.true_or,if_true]
structure cQ (g:bx) (more:Int):Prop where
 ok:rC g.m
 rG: ∀c:Int,0<=c->c<g.m.W*g.m.H->1<=rd g.m.C c/\rd g.m.C c<=255
 vs:(g.qA.length:Int)=dB g.m.W g.m.H
 ep:1<=g.bS/\g.bS+more<=4611686018427387905+1000/\0<=more
def bV (m:aJ) (c:Int):Prop:=0<=c/\c<m.W*m.H
instance (m:aJ) (c:Int):Decidable (bV m c):=by unfold bV;infer_instance
def fh (g:bx) (c:Int):Int:=if bV g.m c then rd g.m.C c else 0
def fU (g:bx) (s:Int):Int:=if 0<=s/\s<dB g.m.W g.m.H then rd g.qA s else 0
def nQ (g:bx) (c v:Int):bx:=bx.mk (aJ.mk g.m.W g.m.H (aG g.m.C c.toNat v)) (g.bS+1) (aG g.qA (aQ g.m.W g.m.H c).toNat (g.bS+1))
def KB (g:bx) (c v:Int):Int×bx:=if ¬bV g.m c then(7,g) else if v<1∨255<v then(8,g) else(0,nQ g c v)
variable {g : bx} {more : Int}
theorem Xp (h:cQ g more) (c:Int):(if c<0 then(some true) else(some (decide (c≥(aa g.m.C:Int)))))=some (decide (¬bV g.m c)):=by
 have hl:=h.ok.2.1;unfold bV
 by_cases h0:c<0
 ·rw[ag h0,decide_eq_true U]
 ·rw[ah h0,hl];congr 1;rw[qC];simp;omega
theorem sU (h:cQ g more) (c:Int):jq.f g c=some (fh g c):=by
 unfold jq.f fh;rw[Xp h];have hl:=h.ok.2.1
 by_cases hc:bV g.m c
 ·obtain⟨c0,c1⟩:=hc;have hb:=h.rG c c0 c1;have hc:bV g.m c:=⟨c0,c1⟩;rw[aD,ah (by simpa using hc),ag U,ag hc,bg U U]
 ·rw[aD,ag (by simpa using hc),ah hc]
theorem acY (h:cQ g more) (c v:Int):ye.f g c v=some (KB g c v):=by
 unfold ye.f KB;rw[Xp h];have hl:=h.ok.2.1;have hv:=h.vs
 by_cases hc:bV g.m c
 ·obtain⟨c0,c1⟩:=hc;have hc:bV g.m c:=⟨c0,c1⟩;rw[aD,ah (by simpa using hc),ah (c:= ¬bV g.m c) (λq=>q hc)]
  by_cases hq:v<1∨255<v
  ·rw[ag bf,ag hq]
  ·have e_:bQ g.m.W g.m.H c:=⟨h.ok.1,c0,c1⟩;have Ab:bE g.m.W g.m.H (aQ g.m.W g.m.H c):=by unfold aQ;rw[ag e_];exact FW e_
   have Pf:=h.ep;rw[ah bf,ah hq,ag U,si,aD,ag (by rw[hv];exact⟨Ab.1,Ab.2⟩),Gb U U,bg U U]
   rfl
 ·rw[aD,ag (by simpa using hc),ag (c:= ¬bV g.m c) hc]
theorem ag6 (h:cQ g more) (h1:1<=more) {c v:Int} (hc:bV g.m c) (v0:1<=v) (v1:v<=255):cQ (nQ g c v) (more-1):=by
 obtain⟨c0,c1⟩:=hc;have hl:=h.ok.2.1;have Pf:=h.ep;have iZ: ∀d:Int,0<=d->d<g.m.W*g.m.H->1<=rd (aG g.m.C c.toNat v) d/\rd (aG g.m.C c.toNat v) d<=255:=λd d0 d1=>by
  rw[BM c0 U d0];split
  ·exact⟨v0,v1⟩
  ·exact h.rG d d0 d1
 refine⟨⟨h.ok.1,by simp[nQ,hl],λhm=>?_⟩,iZ,by simp[nQ,h.vs],⟨by simp[nQ];omega,by simp[nQ];omega,by omega⟩⟩
 obtain⟨i,hi,he⟩:=List.getElem_of_mem hm;have tg:i<(aG g.m.C c.toNat v).length:=hi;rw[mo] at tg;have:=iZ i U U;rw[jc (show(i:Int).toNat<(aG g.m.C c.toNat v).length by rw[mo];omega)] at this
 have he:(aG g.m.C c.toNat v)[i]=0:=he;simp only[Int.toNat_natCast] at this;omega
def mM (m:aJ) (c:Int):Bool:=decide (bV m c)&&decide (rd m.C c≠255)
theorem rj {m:aJ} {c:Int}:mM m c=true↔bV m c/\rd m.C c≠255:=by simp[mM]
theorem Ql {g:bx} {more:Int} (h:cQ g more) (c:Int):vd.f g c=some (mM g.m c):=by
 unfold vd.f;rw[sU h,aD];unfold fh mM
 by_cases hc:bV g.m c
 ·have:=h.rG c hc.1 hc.2;rw[ag hc,decide_eq_true hc]
  congr 1
  rw[qC];simp;omega
 ·rw[ah hc,decide_eq_false hc];simp
theorem aj_ (m:aJ) {c:Int} (hc:c<0):mM m c=false:=by
 unfold mM;rw[decide_eq_false (λq=>by have:=q.1;omega)];rfl
def bO (m:aJ) (s:Int):List Int:=(q_ m.W m.H s).filter (mM m)
theorem SS (w h s:Int):(q_ w h s).length<=256:=by
 have:=xv w h s;have:=SR w h s ((az w h s).1*(az w h s).2).toNat;unfold q_;omega
theorem ah3 {g:bx} {more:Int} (h:cQ g more) (v:List Int) (hv:v.length<=1000): ∀(n k:Nat) (i:Int) (x:List Int),i+n=v.length->0<=i->n<k->x.length<=i.toNat->
 kF.l0 k g v x i=some (x++(v.drop i.toNat).filter (mM g.m)):=by
 intro n
 induction n with
 |zero=>
  intro k i x hi h0 hk hx;obtain⟨k,rfl⟩:=bl hk;rw[kF.l0,ah U,A_ U];simp
 |succ n ih=>
  intro k i x hi h0 hk hx;obtain⟨k,rfl⟩:=bl hk;rw[kF.l0,ag U,ag U,Ql h,aD,bg U U,CV h0 U]
  by_cases ho:mM g.m (rd v i)=true
  ·rw[ag ho,ag U,ih k (i+1) _ U U U bf,List.filter_cons_of_pos ho];simp
  ·rw[ah ho,ih k (i+1) _ U U U U,List.filter_cons_of_neg ho]
theorem Xh {g:bx} {more:Int} (h:cQ g more) (s:Int):kF.f g s=some (bO g.m s):=by
 unfold kF.f;have e0:iY.f g=some (g.m.W,g.m.H):=rfl;have hl:=SS g.m.W g.m.H s;rw[e0,aD,acb,aD];have:=ah3 h (q_ g.m.W g.m.H s) U (q_ g.m.W g.m.H s).length fuel 0 [] U U (by rw[cI];omega) aX
 exact this
def xo (m:aJ) (c:Int) (n:Nat):List eJ:=((List.range n).filter (λj:Nat=>mM m (fp m.W m.H c (j:Int)))).map (λj:Nat=>eJ.mk (fp m.W m.H c (j:Int)) (rd m.C (fp m.W m.H c (j:Int))))
def uI (m:aJ) (c:Int):List eJ:=if mM m c=true then xo m c 4 else[]
theorem acz (m:aJ) (c:Int) (n:Nat):xo m c (n+1)=if mM m (fp m.W m.H c (n:Int))=true then xo m c n++[eJ.mk (fp m.W m.H c (n:Int)) (rd m.C (fp m.W m.H c (n:Int)))] else xo m c n:=by
 unfold xo;rw[List.range_succ,List.filter_append,List.map_append]
 by_cases h:mM m (fp m.W m.H c (n:Int))=true
 ·rw[ag h];simp[h]
 ·rw[ah h];simp[h]
theorem S8 (m:aJ) (c:Int) (n:Nat):(xo m c n).length<=n:=by
 unfold xo;rw[List.length_map];have:=EE (λj:Nat=>mM m (fp m.W m.H c (j:Int))) (List.range n);simpa using this
theorem acA {g:bx} {more:Int} (h:cQ g more) (c:Int):oB.f g c=some (uI g.m c):=by
 unfold oB.f uI;have e0:iY.f g=some (g.m.W,g.m.H):=rfl;have e:zJ.f=some [0,1,2,3]:=rfl;rw[e0,aD,Ql h,aD]
 by_cases ho:mM g.m c=true
 ·rw[ah (by rw[ho];simp),e,aD,ag ho]
  have key: ∀(n k:Nat) (j:Int),j+n=4->0<=j->n<k->oB.l0 k g c (g.m.W,g.m.H) [0,1,2,3] (xo g.m c j.toNat) j=some (xo g.m c 4):=by
   intro n
   induction n with
   |zero=>
    intro k j hj h0 hk;obtain⟨k,rfl⟩:=bl hk;rw[oB.l0,ah U];rw[show j.toNat=4 by omega]
   |succ n ih=>
    intro k j hj h0 hk;obtain⟨k,rfl⟩:=bl hk;have hle:=S8 g.m c j.toNat;have:=ih k (j+1) U U U;rw[show(j+1).toNat=j.toNat+1 by omega,acz,show((j.toNat:Nat):Int)=j by omega] at this
    rw[oB.l0,ag U,YD h0 U,Xs,ag bf,aD,bg U U];have e2:(if fp g.m.W g.m.H c j≥0 then((vd.f g (fp g.m.W g.m.H c j)).bind λv12=>some v12) else(some false))=some (mM g.m (fp g.m.W g.m.H c j)):=by
     by_cases hn:fp g.m.W g.m.H c j≥0
     ·rw[ag hn,Ql h];rfl
     ·rw[ah hn,aj_ _ U]
    rw[e2,aD]
    by_cases hq:mM g.m (fp g.m.W g.m.H c j)=true
    ·rw[ag hq] at this;have Fc:fh g (fp g.m.W g.m.H c j)=rd g.m.C (fp g.m.W g.m.H c j):=by unfold fh;rw[ag (rj.mp hq).1]
     rw[ag hq,sU h,aD,ag U,Fc];exact this
    ·rw[ah hq] at this;rw[ah hq];exact this
  exact key 4 fuel 0 U U (by rw[cI];omega)
 ·rw[ag (by simpa using ho),ah ho]
theorem DB {tw th side:Int} (t0:0<=tw) (t1:tw<=16) (u0:0<=th) (u1:th<=16):0<=ra tw th side/\ra tw th side<=16:=by
 unfold ra;split
 ·omega
 ·split<;>omega
theorem S9 (m:aJ) (c:Int):(uI m c).length<=4:=by
 unfold uI;split
 ·exact S8 m c 4
 ·simp
def j4 (m:aJ) (s:Int) (n:Nat):List Int:=(List.range n).map λl:Nat=>rd m.C (cn m.W m.H s (l:Int))
theorem B9 (m:aJ) (s:Int) (n:Nat):(j4 m s n).length=n:=by simp[j4]
theorem akH (m:aJ) (s:Int) (n:Nat):j4 m s (n+1)=j4 m s n++[rd m.C (cn m.W m.H s (n:Int))]:=by
 simp[j4,List.range_succ]
theorem akG (m:aJ) (s:Int) (n a:Nat):j4 m s (n+a)=j4 m s n++(List.range a).map λx:Nat=>rd m.C (cn m.W m.H s ((n+x:Nat):Int)):=by
 simp only[j4,List.range_add,List.map_append,List.map_map];rfl
theorem zR {w h s l:Int} (hs:bE w h s) (h0:0<=l) (h1:l<(az w h s).1*(az w h s).2):0<=cn w h s l/\cn w h s l<w*h:=by
 obtain⟨a1,a2,a3,a4,a5,a6⟩:=wE hs h0 h1;obtain⟨p1,p2,p3,p4⟩:=uQ hs;have e:cn w h s l=(16*(s/(bq w h).1)+l/(az w h s).1)*w+(16*(s%(bq w h).1)+l%(az w h s).1):=by
  unfold cn;rw[ag ⟨hs,h0,h1⟩]
 rw[e];exact sS U a5 U a6
theorem global_row {w h s y x:Int} (hs:bE w h s) (y0:0<=y) (y1:y<(az w h s).2) (x0:0<=x) (x1:x<(az w h s).1):cn w h s (y*(az w h s).1+x)=cn w h s (y*(az w h s).1)+x:=by
 obtain⟨z1,z2,z3,z4⟩:=qw hs;have hl:=sS (w:=(az w h s).1) (h:=(az w h s).2) x0 x1 y0 y1;have yp:=sS (w:=(az w h s).1) (h:=(az w h s).2) (x:=0) U U y0 y1;have n1:=qg (a:=(az w h s).1) (x:=x) (y:=y) x0 x1;have n0:=qg (a:=(az w h s).1) (x:=0) (y:=y) U U;rw[Int.add_zero] at n0 yp;unfold cn;rw[ag ⟨hs,hl⟩,ag ⟨hs,yp⟩,n1.1,n1.2,n0.1,n0.2];omega
theorem akA {L:List Int} {lo:Int} {a:Nat} (h0:0<=lo) (h1:lo+a<=L.length):aB L lo (lo+a)=(List.range a).map λx:Nat=>rd L (lo+(x:Int)):=by
 apply List.ext_getElem
 ·simp[aB];omega
 ·intro i h2 h3;have hi:i<a:=by simpa using h3
  simp only[aB,List.getElem_take,List.getElem_drop,List.getElem_map,List.getElem_range];rw[jc U]
  congr 1;omega
theorem akI {m:aJ} (hm:rC m) (s:Int):oW.f m s=some (aJ.mk (az m.W m.H s).1 (az m.W m.H s).2 (j4 m s ((az m.W m.H s).1*(az m.W m.H s).2).toNat)):=by
 unfold oW.f;rw[Yo,aD];have hz:=size_le m.W m.H s;have VT:(az m.W m.H s).1*(az m.W m.H s).2<=16*16:=kc hz.1 hz.2.2.1 hz.2.1 hz.2.2.2;have hp0:0<=(az m.W m.H s).1*(az m.W m.H s).2:=nV hz.1 hz.2.2.1;have key: ∀(n k:Nat) (i:Int),i+n=(az m.W m.H s).1*(az m.W m.H s).2->0<=i->n<k->
  oW.l0 k m s (az m.W m.H s) (j4 m s i.toNat) i=some (aJ.mk (az m.W m.H s).1 (az m.W m.H s).2 (j4 m s ((az m.W m.H s).1*(az m.W m.H s).2).toNat)):=by
  intro n
  induction n with
  |zero=>
   intro k i hi h0 hk;obtain⟨k,rfl⟩: ∃q,k=q+1:=⟨k-1,by omega⟩
   rw[oW.l0,bg (x:=_*_) U U,ah U];have:i=(az m.W m.H s).1*(az m.W m.H s).2:=U;rw[this]
  |succ n ih=>
   intro k i hi h0 hk;obtain⟨k,rfl⟩: ∃q,k=q+1:=⟨k-1,by omega⟩
   have hs:bE m.W m.H s:=by
    by_cases hs:bE m.W m.H s
    ·exact hs
    ·have:az m.W m.H s=(0,0):=by unfold az;rw[ah hs]
     rw[this] at hi;simp at hi;omega
   have hg:=zR hs h0 (by omega:i<_)
   have hl:=hm.2.1;rw[oW.l0,bg (x:=_*_) U U,ag U,ajc,aD,ag U,ag (by rw[B9];omega),bg U U]
   have:=ih k (i+1) U U U;rw[show(i+1).toNat=i.toNat+1 by omega,akH,show((i.toNat:Nat):Int)=i by omega] at this
   exact this
 exact key ((az m.W m.H s).1*(az m.W m.H s).2).toNat fuel 0 U U (by rw[sY];omega)
def G9 (g:bx) (s:Int):aJ×Bool:=if bE g.m.W g.m.H s then(aJ.mk (az g.m.W g.m.H s).1 (az g.m.W g.m.H s).2 (j4 g.m s ((az g.m.W g.m.H s).1*(az g.m.W g.m.H s).2).toNat),true) else(aJ.mk 0 0 [],false)
theorem Ra {g:bx} {more:Int} (h:cQ g more) (s:Int):mB.f g s=some (G9 g s):=by
 have hl:=h.ok.2.1;unfold mB.f G9;have e0:iY.f g=some (g.m.W,g.m.H):=rfl;rw[e0,aD,F0,aD]
 by_cases hs:bE g.m.W g.m.H s
 ·have hz:=qw hs;rw[ah bf,ag hs];have VT:(az g.m.W g.m.H s).1*(az g.m.W g.m.H s).2<=16*16:=kc U U hz.2.1 hz.2.2.2;have key: ∀(n k:Nat) (i:Int),i+n=(az g.m.W g.m.H s).2->0<=i->n<k->
   mB.l0 k g s (g.m.W,g.m.H) (az g.m.W g.m.H s) (j4 g.m s (i*(az g.m.W g.m.H s).1).toNat) i=some (aJ.mk (az g.m.W g.m.H s).1 (az g.m.W g.m.H s).2 (j4 g.m s ((az g.m.W g.m.H s).1*(az g.m.W g.m.H s).2).toNat),true):=by
   intro n
   induction n with
   |zero=>
    intro k i hi h0 hk;obtain⟨k,rfl⟩: ∃q,k=q+1:=⟨k-1,by omega⟩
    rw[mB.l0,ah U];have:i=(az g.m.W g.m.H s).2:=U;rw[this,mW]
   |succ n ih=>
    intro k i hi h0 hk;obtain⟨k,rfl⟩: ∃q,k=q+1:=⟨k-1,by omega⟩
    have tg:i<(az g.m.W g.m.H s).2:=U;have b0:0<=i*(az g.m.W g.m.H s).1:=nV h0 U;have b1:i*(az g.m.W g.m.H s).1+(az g.m.W g.m.H s).1<=(az g.m.W g.m.H s).1*(az g.m.W g.m.H s).2:=by
     have:(i+1)*(az g.m.W g.m.H s).1<=(az g.m.W g.m.H s).2*(az g.m.W g.m.H s).1:=Cw U U;rw[Int.add_mul,Int.one_mul,mW (az g.m.W g.m.H s).2] at this;exact this
    have lo:=zR hs b0 U;have hi3:=zR (l:=i*(az g.m.W g.m.H s).1+((az g.m.W g.m.H s).1-1)) hs U U;rw[global_row hs h0 tg U U] at hi3;have hc:=rW h.ok.1;rw[mB.l0,ag tg,bg (x:=_*_) U U,KI,aD];simp only[bg (x:=cn g.m.W g.m.H s (i*(az g.m.W g.m.H s).1)+(az g.m.W g.m.H s).1) U U];rw[ag U];have j_:(((az g.m.W g.m.H s).1.toNat:Nat):Int)=(az g.m.W g.m.H s).1:=U;have Fp:=akA (L:=g.m.C) (lo:=cn g.m.W g.m.H s (i*(az g.m.W g.m.H s).1)) (a:=(az g.m.W g.m.H s).1.toNat) U U;rw[j_] at Fp;rw[Fp,ag (by rw[B9];simp;omega),bg U U]
    have yr:j4 g.m s (i*(az g.m.W g.m.H s).1).toNat++(List.range (az g.m.W g.m.H s).1.toNat).map (λx:Nat=>rd g.m.C (cn g.m.W g.m.H s (i*(az g.m.W g.m.H s).1)+(x:Int)))=j4 g.m s ((i+1)*(az g.m.W g.m.H s).1).toNat:=by
     rw[show((i+1)*(az g.m.W g.m.H s).1).toNat=(i*(az g.m.W g.m.H s).1).toNat+(az g.m.W g.m.H s).1.toNat by rw[Int.add_mul,Int.one_mul];omega,akG]
     congr 1
     apply List.map_congr_left;intro x hx;have Ae:=List.mem_range.mp hx;rw[show(((i*(az g.m.W g.m.H s).1).toNat+x:Nat):Int)=i*(az g.m.W g.m.H s).1+(x:Int) by omega,global_row hs h0 tg U U]
    rw[yr];exact ih k (i+1) U U U
  have:=key (az g.m.W g.m.H s).2.toNat fuel 0 U U (by rw[sY];omega)
  rw[show((0:Int)*(az g.m.W g.m.H s).1).toNat=0 by simp] at this
  exact this
 ·have:az g.m.W g.m.H s=(0,0):=by unfold az;rw[ah hs]
  rw[this,ag aX,ah hs]
theorem adF (g:bx) (hb:g.m.C.length<=1099511627776):yf.f g=some g.m:=by
 unfold yf.f;rw[SU _ hb];rfl
def Ok {α:Type} (o:Option α) (P:α->Prop):Prop:= ∃r,o=some r/\P r
section
variable {α β : Type} {o : Option α} {f : α -> Option β} {P : α -> Prop} {Q : β -> Prop} {a b : Option α} {c : Prop} [Decidable c]
theorem Ok.bind (h:Ok o P) (k: ∀r,P r->Ok (f r) Q):Ok (o.bind f) Q:=by
 obtain⟨r,rfl,hr⟩:=h;exact k r hr
theorem Ok.bind' {γ:Type} {g:α->γ} {k:γ->Option β} (h:Ok o P) (q: ∀r,P r->Ok (k (g r)) Q):Ok ((o.bind λr=>some (g r)).bind k) Q:=by
 obtain⟨r,rfl,hr⟩:=h;exact q r hr
theorem Ok.eq {v:α} (e:o=some v) (k:Ok (f v) Q):Ok (o.bind f) Q:=by subst e;exact k
theorem Ok.opt {x:α} {d:Option β} (h:Ok (f x) Q):Ok (dA (some x) d f) Q:=h
theorem Ok.pure {r:α} (h:P r):Ok (some r) P:=⟨r,J,h⟩
theorem Ok.ite (h1:c->Ok a P) (h2: ¬c->Ok b P):Ok (if c then a else b) P:=by
 split
 ·exact h1 ‹_›
 ·exact h2 ‹_›
theorem Ok.cz (hc:c) (h:Ok a P):Ok (if c then a else none) P:=by rw[ag hc];exact h
theorem Ok.pos (hc:c) (h:Ok a P):Ok (if c then a else b) P:=by rw[ag hc];exact h
theorem Ok.neg (hc: ¬c) (h:Ok b P):Ok (if c then a else b) P:=by rw[ah hc];exact h
theorem Ok.mono {P':α->Prop} (h:Ok o P) (k: ∀r,P r->P' r):Ok o P':=by
 obtain⟨r,e,hr⟩:=h;exact⟨r,e,k r hr⟩
theorem Ok.of {r:α} (e:o=some r) (h:P r):Ok o P:=⟨r,e,h⟩
end
theorem wi {x:Int} (h1: -9223372036854775808<=x) (h2:x<=9223372036854775807):af x=x:=bg h1 h2
theorem IC {α:Type} [Inhabited α] {l:List α} {e:α}:e∈l↔ ∃c:Int,0<=c/\c<l.length/\rd l c=e:=by
 constructor
 ·intro h;obtain⟨i,hi,rfl⟩:=List.getElem_of_mem h;exact⟨i,by omega,by omega,by rw[jc (by simpa using hi)];simp⟩
 ·rintro⟨c,h0,h1,rfl⟩;exact tz h0 h1
theorem Q_ {α:Type} [Inhabited α] {l:List α} {i j:Int} (i0:0<=i) (i1:i<l.length) (j0:0<=j) (j1:j<l.length) (e:α):
 e∈aG (aG l i.toNat (rd l j)) j.toNat (rd l i)↔e∈l:=by
 rw[IC,IC];have h: ∀c:Int,0<=c->rd (aG (aG l i.toNat (rd l j)) j.toNat (rd l i)) c=if c=j then rd l i else if c=i then rd l j else rd l c:=by
  intro c c0;rw[BM j0 (by simpa using j1) c0,BM i0 i1 c0]
 simp only[mo];constructor
 ·rintro⟨c,c0,c1,rfl⟩;rw[h c c0];split
  ·exact⟨i,i0,i1,J⟩
  ·split
   ·exact⟨j,j0,j1,J⟩
   ·exact⟨c,c0,c1,J⟩
 ·rintro⟨c,c0,c1,rfl⟩
  by_cases a:c=i
  ·exact⟨j,j0,j1,by rw[h j j0,ag J,a]⟩
  ·by_cases b:c=j
   ·refine⟨i,i0,i1,?_⟩;rw[h i i0];subst b;rw[ah U,ag J]
   ·exact⟨c,c0,c1,by rw[h c c0,ah b,ah a]⟩
def sN (t:aJ):Prop:=1<=t.W/\t.W<=16/\1<=t.H/\t.H<=16/\(t.C.length:Int)=t.W*t.H/\0∉t.C
instance (t:aJ):Decidable (sN t):=by unfold sN;infer_instance
theorem pd {t:aJ} (h:sN t):1<=t.C.length/\t.C.length<=256:=by
 obtain⟨a,b,c,d,e,_⟩:=h;have h1:t.W*t.H<=16*16:=kc U U b d;have h2:1*1<=t.W*t.H:=kc U U a c;omega
theorem My (t:aJ) (hb:t.C.length<4611686018427387904):uX.f t=some (decide (sN t)):=by
 unfold uX.f Ca.f;simp only[aD]
 by_cases hw:1<=t.W/\t.W<=16
 ·by_cases hh:1<=t.H/\t.H<=16
  ·have h1:t.W*t.H<=16*16:=kc U U hw.2 hh.2;have h2:0<=t.W*t.H:=nV U U;rw[ag bf,ag bf,bg U U,NR _ _ hb]
   by_cases hl:(t.C.length:Int)=t.W*t.H
   ·rw[ag (by simpa using hl)]
    simp only[aD]
    congr 1
    rw[qC];simp[sN,hw,hh,hl]
   ·rw[ah (by simpa using hl),decide_eq_false (λq=>hl q.2.2.2.2.1)];rfl
  ·rw[ag bf,ah bf,decide_eq_false (λq=>hh ⟨q.2.2.1,q.2.2.2.1⟩)];rfl
 ·rw[ah bf,decide_eq_false (λq=>hw ⟨q.1,q.2.1⟩)];rfl
def mX (t:aJ):Prop:=sN t/\ ∀c:Int,0<=c->c<t.C.length->1<=rd t.C c/\rd t.C c<=255
theorem akE {t:aJ} (h:mX t) (c:Int):B_.f t c=some (if 0<=c/\c<t.C.length then rd t.C c else 0):=by
 have hl:=pd h.1;unfold B_.f F7.f;rw[My _ U,decide_eq_true h.1]
 by_cases a:0<=c
 ·by_cases b:c<t.C.length
  ·have:=h.2 c a b;rw[ag a,ag b,ag ⟨a,b⟩];simp only[aD,mV,gj,if_false];rw[ag ⟨a,b⟩,wi U U]
  ·simp only[ag a,ah b,ah (show ¬(0<=c/\c<t.C.length) from λq=>b q.2)];rfl
 ·simp only[ge_iff_le,ah a,ah (show ¬(0<=c/\c<t.C.length) from λq=>a q.1)];rfl
def fg (p:Int->Bool):Nat->Nat
 |0=>0
 |n+1=>fg p n+if p n then 1 else 0
theorem ES (p:Int->Bool): ∀n,fg p n<=n
 |0=>l7 _
 |n+1=>by have:=ES p n;unfold fg;split<;>omega
theorem SY {p q:Int->Bool}: ∀{n:Nat},(∀i:Int,0<=i->i<n->p i=q i)->fg p n=fg q n
 |0,_=>rfl
 |n+1,h=>by unfold fg;rw[SY (λi a b=>h i a U),h n U U]
theorem NP {p q:Int->Bool} {c:Int}: ∀{n:Nat},0<=c->c<n->p c=true->q c=false->(∀i:Int,0<=i->i<n->i≠c->q i=p i)->fg p n=fg q n+1
 |0,h0,h1,_,_,_=>by omega
 |n+1,h0,h1,hp,hq,he=>by
  unfold fg
  by_cases z:c=n
  ·subst z;rw[hp,hq,SY (p:=p) (q:=q) (λi a b=>(he i a U U).symm)];simp
  ·rw[NP h0 U hp hq (λi a b=>he i a U),he n U U (λy=>z y.symm)];omega
theorem ir {m:aJ} (hm:rC m) {c:Int} (h:bV m c):bQ m.W m.H c:=⟨hm.1,h.1,h.2⟩
theorem Mv {m:aJ} {c s:Int} (h0: ¬bB m.W m.H c s<0):bV m (bB m.W m.H c s):=by
 unfold bB at h0⊢;split at h0
 ·rename_i h;rw[ag h];unfold oa at h0⊢;split at h0
  ·rename_i q;rw[ag q];exact sS q.2.1 q.2.2.1 q.2.2.2.1 q.2.2.2.2
  ·omega
 ·omega
theorem B0 (g:bx):iY.f g=some (g.m.W,g.m.H):=rfl
theorem G6 (g:bx):pY.f g=some g.bS:=rfl
theorem Is (w h c:Int):sx.f w h c=some (cD w h c):=by
 unfold sx.f cD;simp only[Qs,aD,si,F0]
 by_cases hc:bQ w h c
 ·rw[ah (by rw[FF];simp[hc]),ag hc]
  simp only[BV];rw[ag hc];simp only;have hp:=vF hc;have hw:=P6 hc;have hz:=size_le w h (aQ w h c);have h5:0<=c/w%16*(az w h (aQ w h c)).1:=nV U U;have h6:c/w%16*(az w h (aQ w h c)).1<=16*16:=kc U U U U;rw[nF hp.2.2.1,nF hp.1,bg (x:=_*_) U U,bg U U]
 ·rw[ag (by rw[FF];exact hc),ah hc]
theorem Ak {w h c:Int} (hc:bQ w h c):0<=cD w h c/\cD w h c<(az w h (aQ w h c)).1*(az w h (aQ w h c)).2:=by
 have mF:=P6 hc;have nT:=vF hc;have h1:=sS (w:=(az w h (aQ w h c)).1) (h:=(az w h (aQ w h c)).2) (x:=c%w%16) (y:=c/w%16) U mF.1 U mF.2;have e4:cD w h c=c/w%16*(az w h (aQ w h c)).1+c%w%16:=by unfold cD;rw[ag hc]
 rw[e4];exact h1
theorem o0 {w h c:Int} (hc:bQ w h c):bE w h (aQ w h c):=by
 unfold aQ;rw[ag hc];exact FW hc
theorem pX {w h c:Int} (hc:bQ w h c):cn w h (aQ w h c) (cD w h c)=c:=by
 have mF:=P6 hc;have nT:=vF hc;have VY:=Eb hc;have bZ:=Ak hc;unfold cn;rw[ag ⟨o0 hc,bZ⟩];have e3:aQ w h c=c/w/16*(bq w h).1+c%w/16:=by unfold aQ;rw[ag hc]
 have e4:cD w h c=c/w%16*(az w h (aQ w h c)).1+c%w%16:=by unfold cD;rw[ag hc]
 have n1:=qg (a:=(bq w h).1) (x:=c%w/16) (y:=c/w/16) VY.1 VY.2.1;have n2:=qg (a:=(az w h (aQ w h c)).1) (x:=c%w%16) (y:=c/w%16) U mF.1;rw[<-e3] at n1;rw[<-e4] at n2;rw[n1.1,n1.2,n2.1,n2.2];have a1:16*(c/w/16)+c/w%16=c/w:=U;have a2:16*(c%w/16)+c%w%16=c%w:=U;rw[a1,a2];have e:=NL hc;unfold oa at e;rw[ag ⟨hc.1,nT.1,nT.2.1,nT.2.2.1,nT.2.2.2⟩] at e;exact e
theorem KJ {w h s l k:Int} (hs:bE w h s) (h0:0<=l) (h1:l<k) (h2:k<(az w h s).1*(az w h s).2):cn w h s l<cn w h s k:=by
 obtain⟨a1,a2,a3,a4,a5,a6⟩:=wE hs h0 (by omega:l<_)
 obtain⟨b1,b2,b3,b4,b5,b6⟩:=wE (l:=k) hs U h2;have e1:cn w h s l=(16*(s/(bq w h).1)+l/(az w h s).1)*w+(16*(s%(bq w h).1)+l%(az w h s).1):=by unfold cn;rw[ag ⟨hs,h0,by omega⟩]
 have e2:cn w h s k=(16*(s/(bq w h).1)+k/(az w h s).1)*w+(16*(s%(bq w h).1)+k%(az w h s).1):=by unfold cn;rw[ag ⟨hs,by omega,h2⟩]
 have p:=uQ hs;have hz:=qw hs;have m1:=u_ l (az w h s).1;have m2:=u_ k (az w h s).1;rw[e1,e2];have hle:l/(az w h s).1<=k/(az w h s).1:=Int.ediv_le_ediv U U
 by_cases hq:l/(az w h s).1=k/(az w h s).1
 ·rw[<-hq] at m2⊢;omega
 ·have:=Cw (show 16*(s/(bq w h).1)+l/(az w h s).1+1<=16*(s/(bq w h).1)+k/(az w h s).1 by omega) (show 0<=w by omega)
  rw[Int.add_mul (16*(s/(bq w h).1)+l/(az w h s).1),Int.one_mul] at this;omega
theorem ach (w h s:Int):(q_ w h s).Pairwise (· < ·):=by
 unfold q_ vH;have hz:=xv w h s;rw[List.pairwise_map];have h1:((List.range ((az w h s).1*(az w h s).2).toNat).filter (λl:Nat=>BT w h s (l:Int))).Pairwise (· < ·):=List.Pairwise.sublist List.filter_sublist List.pairwise_lt_range;refine List.Pairwise.imp_of_mem ?_ h1;intro a b ha hb zV;have kb:=List.mem_range.mp (List.mem_filter.mp hb).1;exact KJ (Q3 (w:=w) (h:=h) (s:=s) (l:=(b:Int)) U U) U U U
theorem Qg (m:aJ) (s:Int):(bO m s).Pairwise (· < ·):=(ach m.W m.H s).sublist List.filter_sublist
theorem qU {m:aJ} {s c:Int} (h:c∈bO m s):mM m c=true/\bV m c/\bE m.W m.H s/\aQ m.W m.H c=s:=by
 obtain⟨h1,h2⟩:=List.mem_filter.mp h;unfold q_ vH at h1;obtain⟨l,hl,rfl⟩:=List.mem_map.mp h1;have hz:=xv m.W m.H s;have kl:=List.mem_range.mp (List.mem_filter.mp hl).1;have hs:=Q3 (w:=m.W) (h:=m.H) (s:=s) (l:=(l:Int)) U U;exact⟨h2,(rj.mp h2).1,hs,FV hs U U⟩
theorem xa (m:aJ) (s:Int):(bO m s).length<=256:=by
 have:=SS m.W m.H s;have:=EE (mM m) (q_ m.W m.H s);unfold bO;omega
theorem ahe {w h s l:Int} (hs:bE w h s) (h0:0<=l) (h1:l<(az w h s).1*(az w h s).2):cD w h (cn w h s l)=l:=by
 have hc:=(Hc hs h0 h1).1;have e:=FV hs h0 h1;have bZ:=Ak hc;have hg:=pX hc;rw[e] at bZ hg;rcases Int.lt_trichotomy (cD w h (cn w h s l)) l with q |q |q
 ·have:=KJ hs bZ.1 q h1;omega
 ·exact q
 ·have:=KJ hs h0 q bZ.2;omega
theorem P5 {w h a b:Int} (ha:bQ w h a) (hb:bQ w h b) (e:aQ w h a=aQ w h b) (zV:a<b):cD w h a<cD w h b:=by
 have ia:=Ak ha;have ga:=pX ha;have ib:=Ak hb;have gb:=pX hb;rw[e] at ia ga;rcases Int.lt_trichotomy (cD w h a) (cD w h b) with q |q |q
 ·exact q
 ·rw[q] at ga;omega
 ·have:=KJ (o0 hb) ib.1 q ia.2;omega
abbrev di (m:aJ) (s:Int):aJ:=aJ.mk (az m.W m.H s).1 (az m.W m.H s).2 (j4 m s ((az m.W m.H s).1*(az m.W m.H s).2).toNat)
theorem T9 {g:bx} {s:Int} (hs:bE g.m.W g.m.H s):G9 g s=(di g.m s,true):=by unfold G9;rw[ag hs]
theorem Jo {m:aJ} {s l:Int} {n:Nat} (h0:0<=l) (h1:l<n):rd (j4 m s n) l=rd m.C (cn m.W m.H s l):=by
 unfold j4;rw[jc bf];simp only[List.getElem_map,List.getElem_range];rw[show((l.toNat:Nat):Int)=l by omega]
variable {g : bx} {more : Int}
theorem BW (h:cQ g more) {s:Int} (hs:bE g.m.W g.m.H s):mX (di g.m s):=by
 obtain⟨z1,z2,z3,z4⟩:=qw hs;have hz:=xv g.m.W g.m.H s;have hv: ∀c:Int,0<=c->c<((az g.m.W g.m.H s).1*(az g.m.W g.m.H s).2).toNat->1<=rd (di g.m s).C c/\rd (di g.m s).C c<=255:=λc c0 c1=>by
  show 1<=rd (j4 _ _ _) c/\rd (j4 _ _ _) c<=255
  rw[Jo c0 c1];have:=zR hs c0 U;exact h.rG _ this.1 this.2
 refine⟨⟨z1,z2,z3,z4,by simp[B9];omega,λhm=>?_⟩,λc c0 c1=>hv c c0 (by rw[B9] at c1;exact c1)⟩
 obtain⟨c,c0,c1,e⟩:=ka hm;have:=hv c c0 (by rw[B9] at c1;exact c1)
 simp only at this;rw[e] at this;omega
theorem tG (h:cQ g more) {c:Int} (hc:bV g.m c):0<=cD g.m.W g.m.H c/\cD g.m.W g.m.H c<(di g.m (aQ g.m.W g.m.H c)).C.length/\rd (di g.m (aQ g.m.W g.m.H c)).C (cD g.m.W g.m.H c)=fh g c:=by
 have e_:=ir h.ok hc;have bZ:=Ak e_;refine⟨bZ.1,by rw[B9];omega,?_⟩
 show rd (j4 _ _ _) _=_
 rw[Jo bZ.1 U,pX e_];unfold fh;rw[ag hc]
theorem adq (s:List Int) (hb:s.length<=4611686018427387904): ∀(n k:Nat) (i:Int),i+n=s.length->0<=i->n<k->qX.l0 k s i=some (decide (0∉s.drop i.toNat)):=by
 intro n
 induction n with
 |zero=>
  intro k i hi h0 hk;obtain⟨k,rfl⟩: ∃q,k=q+1:=⟨k-1,by omega⟩
  rw[qX.l0,ah U,A_ U];simp
 |succ n ih=>
  intro k i hi h0 hk;obtain⟨k,rfl⟩: ∃q,k=q+1:=⟨k-1,by omega⟩
  rw[qX.l0,ag U,ag U,Td h0 U]
  by_cases he:rd s i=0
  ·rw[ag (by simpa using he)];simp[he]
  ·rw[ah (by simpa using he),bg U U,ih k (i+1) U U U]
   congr 1
   rw[qC];simp;intro _ h;exact he h.symm
theorem adp (s:List Int) (hb:s.length<4611686018427387904):qX.f s=some (decide (0∉s)):=by
 unfold qX.f;rw[adq s U s.length fuel 0 U U (by rw[sY];omega)];simp
theorem agH {c:List Int} (hc:c.length<=100000) {a:Int} (a0:0<=a) (a1:a<c.length): ∀(n k:Nat) (x:Int),a+x+n=c.length->1<=x->n<k->(∀j:Int,a<=j->j<a+x->rd c j=rd c a)->
 ∃e,iS.l1 k c a x=some e/\x<=e/\a+e<=c.length/\(∀j:Int,a<=j->j<a+e->rd c j=rd c a)/\(a+e=c.length∨rd c (a+e)≠rd c a):=by
 intro n
 induction n with
 |zero=>
  intro k x hx x1 hk hr;obtain⟨k,rfl⟩:=bl hk;refine⟨x,?_,by omega,by omega,hr,.inl U⟩
  rw[iS.l1,bg U U,ah (c:=a+x<_) U,aD,ah aX]
 |succ n ih=>
  intro k x hx x1 hk hr;obtain⟨k,rfl⟩:=bl hk;rw[iS.l1,bg (x:=a+x) U U,ag U,ag U,ag U,aD]
  by_cases hq:rd c (a+x)=rd c a
  ·rw[ag (by simpa using hq),bg U U]
   obtain⟨e,h1,h2,h3,h4,h5⟩:=ih k (x+1) U U U (λj j0 j1=>by
    by_cases hj:j=a+x
    ·rw[hj,hq]
    ·exact hr j j0 U)
   exact⟨e,h1,by omega,h3,h4,h5⟩
  ·rw[ah (by simpa using hq)]
   exact⟨x,J,by omega,by omega,hr,.inr hq⟩
inductive Co (c:List Int):Int->List Int->Prop
 |done:Co c c.length []
 |run {a e:Int} {L:List Int} (a0:0<=a) (e1:1<=e) (he:a+e<=c.length) (same: ∀j:Int,a<=j->j<a+e->rd c j=rd c a) (stop:a+e=c.length∨rd c (a+e)≠rd c a) (rest:Co c (a+e) L):Co c a ((e-1)::rd c a::L)
theorem aju {c:List Int} (hc:c.length<=256): ∀(n k:Nat) (a:Int) (x:List Int),a+n=c.length->0<=a->n<k->x.length<=1+2*a.toNat->
 ∃L,iS.l0 k c x a=some (x++L)/\(n=0->L=[])/\L.length<=2*n/\(∃q,L.length=2*q)/\(0<n->2<=L.length/\(L.length=2↔ ∀j:Int,a<=j->j<c.length->rd c j=rd c a))/\Co c a L:=by
 intro n
 induction n using Nat.strongRecOn with
 |_ n ih=>
  intro k a x ha a0 hk hx;obtain⟨k,rfl⟩:=bl hk
  by_cases hn:n=0
  ·subst hn;have:a=c.length:=U;refine⟨[],by rw[iS.l0,ah U];simp,λ_=>rfl,by simp,⟨0,J⟩,λq=>by omega,by rw[this];exact .done⟩
  ·have a1:a<(c.length:Int):=U;obtain⟨e,h1,h2,h3,h4,h5⟩:=agH (c:=c) U a0 a1 (n-1) fuel 1 U U (by rw[sY];omega) (λj j0 j1=>by rw[show j=a by omega])
   have ewu:bP (af (e-1))=e-1:=by rw[bg U U,Gb U U]
   obtain⟨L,e1,e2,e3,⟨q,e4⟩,e5,e6⟩:=ih (n-e.toNat) U k (a+e) (x++[e-1,rd c a]) U U U bf;refine⟨(e-1)::rd c a::L,?_,λq=>by omega,by simp;omega,⟨q+1,by simp;omega⟩,λ_=>⟨by simp,?_⟩,.run a0 h2 h3 h4 h5 e6⟩
   ·rw[iS.l0,ag a1,h1,aD,ag ⟨a0,a1⟩,ag U,bg (x:=a+e) U U,ewu];simp only[aD];rw[e1];simp
   ·constructor
    ·intro hl;have rP:L.length=0:=by simp at hl;simp[hl]
     have Fe:a+e=c.length:=by
      by_cases hz:n-e.toNat=0
      ·omega
      ·have:=(e5 U).1;omega
     intro j j0 j1;exact h4 j j0 U
    ·intro tc;have Fe:a+e=c.length:=by
      rcases h5 with h5 |h5
      ·exact h5
      ·by_cases hz:a+e=c.length
       ·exact hz
       ·exact absurd (tc (a+e) U U) h5
     have:=e2 U;rw[this];rfl
theorem aix (t:aJ): ∀(k:Nat) (a x:Int),jI.l1 k t a x=iS.l1 k t.C a x:=by
 intro k
 induction k with
 |zero=>intro a x;rfl
 |succ k ih=>intro a x;simp only[jI.l1,iS.l1,ih]
theorem aiw (t:aJ): ∀(k:Nat) (x:List Int) (a:Int),jI.l0 k t x a=iS.l0 k t.C x a:=by
 intro k
 induction k with
 |zero=>intro x a;rfl
 |succ k ih=>intro x a;simp only[jI.l0,iS.l0,ih,aix]
def uY (c:List Int):Prop:= ∀j:Int,0<=j->j<c.length->rd c j=rd c 0
theorem contains_diff (t:aJ) (h1:1<=t.C.length) (hb:t.C.length<=100000): ∃b,Eh.f t.C t=some b/\(b=false↔uY t.C):=by
 unfold Eh.f sm.f;have key: ∀(n k:Nat) (i:Int),i+n=t.C.length->0<=i->n<k-> ∃r,sm.l0 k t.C t i=some r/\(r<0↔ ∀j:Int,i<=j->j<t.C.length->rd t.C j=rd t.C 0):=by
  intro n
  induction n with
  |zero=>
   intro k i hi h0 hk;obtain⟨k,rfl⟩:=bl hk;exact⟨-1,by rw[sm.l0,ah U],⟨λ_ j j0 j1=>by omega,λ_=>by omega⟩⟩
  |succ n ih=>
   intro k i hi h0 hk;obtain⟨k,rfl⟩:=bl hk;have e:DU.f (rd t.C i) t=some (rd t.C i !=rd t.C 0):=by unfold DU.f;rw[ag U]
   rw[sm.l0,ag U,ag U,e,aD]
   by_cases hq:rd t.C i=rd t.C 0
   ·rw[ah (by simpa using hq),bg U U]
    obtain⟨r,r1,r2⟩:=ih k (i+1) U U U;refine⟨r,r1,?_⟩;rw[r2];constructor
    ·intro h j j0 j1
     by_cases hj:j=i
     ·rw[hj,hq]
     ·exact h j U j1
    ·intro h j j0 j1;exact h j U j1
   ·rw[ag (by simpa using hq)]
    exact⟨i,J,⟨λh=>by omega,λh=>absurd (h i U U) hq⟩⟩
 obtain⟨r,r1,r2⟩:=key t.C.length fuel 0 U U (by rw[sY];omega)
 rw[r1,aD];refine⟨_,J,?_⟩;unfold uY;rw[<-r2];simp
structure Ct (t:aJ) (L:List Int) (f:Int) (out:List Int):Prop where
 runs:iS.f t.C=some (2::L)
 two:L.length=2↔uY t.C
 even: ∃q,L.length=2*q
 enc:Co t.C 0 L
 ge:2<=L.length
 le:L.length<=512
 Jq:uY t.C->f=0/\out=[0,rd t.C 0]
 It: ¬uY t.C-> ¬L.length<t.C.length->f=1/\out=1::t.C
 short: ¬uY t.C->L.length<t.C.length->f=2/\out=2::L
theorem ag' (t:aJ) (h1:1<=t.C.length) (hb:t.C.length<=256): ∃L f out,lP.f t=some (f,out)/\Ct t L f out:=by
 obtain⟨L,e1,_,e3,e4,e5,e8⟩:=aju (c:=t.C) U t.C.length fuel 0 [2] U U (by rw[sY];omega) aX
 have e5:=e5 U;have e6:L.length=2↔uY t.C:=e5.2;obtain⟨b,c1,c2⟩:=contains_diff t h1 U;obtain⟨k,hk⟩: ∃k,fuel=k+4:=⟨fuel-4,by rw[sY]⟩
 have p0:jI.f t 0=some (if b=true then[] else[0,rd t.C 0]):=by
  unfold jI.f;have:bP 0=0:=Gb U U;rw[ag (by rfl),c1,aD,this]
  cases b
  ·rw[ah aX,ag U,ag aX];rfl
  ·rfl
 have p1:jI.f t 1=some (1::t.C):=by
  unfold jI.f;have:bP 1=1:=Gb U U;rw[ah aX,ag (by rfl),this,ag bf];rfl
 have p2:jI.f t 2=some (2::L):=by
  unfold jI.f;have:bP 2=2:=Gb U U;rw[ah aX,ah aX,this,aiw,e1];rfl
 have n1:af (0+1)=1:=bg U U;have n2:af (1+1)=2:=bg U U;have n3:af (2+1)=3:=bg U U;have oL:iS.f t.C=some (2::L):=by unfold iS.f;rw[e1];rfl
 unfold lP.f;rw[hk,lP.l0,ag U,p0,aD,n1]
 by_cases hu:uY t.C
 ·have hbf:b=false:=c2.mpr hu;subst hbf;rw[ah (c:=false=true) aX];simp only[List.isEmpty_cons,List.isEmpty_nil,vZ,if_true,aD];rw[lP.l0,ag U,p1,aD,n2];simp only[List.isEmpty_cons,vZ,if_true,gj,if_false,aD];rw[ah bf,lP.l0,ag U,p2,aD,n3];simp only[List.isEmpty_cons,vZ,if_true,gj,if_false,aD];rw[ah bf,lP.l0,ah U];exact⟨L,0,[0,rd t.C 0],J,⟨oL,e6,e4,e8,e5.1,by omega,λ_=>⟨J,J⟩,λq=>absurd hu q,λq=>absurd hu q⟩⟩
 ·have hbt:b=true:=by
   cases hb:b
   ·exact absurd (c2.mp hb) hu
   ·rfl
  subst hbt;simp only[if_true,List.isEmpty_nil,mV,gj,if_false,aD];rw[lP.l0,ag U,p1,aD,n2];simp only[List.isEmpty_cons,List.isEmpty_nil,vZ,if_true,aD];rw[lP.l0,ag U,p2,aD,n3];simp only[List.isEmpty_cons,vZ,if_true,gj,if_false,aD]
  by_cases hs:L.length<t.C.length
  ·rw[ag bf,lP.l0,ah U];exact⟨L,2,2::L,J,⟨oL,e6,e4,e8,e5.1,by omega,λq=>absurd q hu,λ_ q=>absurd hs q,λ_ _=>⟨J,J⟩⟩⟩
  ·rw[ah bf,lP.l0,ah U];exact⟨L,1,1::t.C,J,⟨oL,e6,e4,e8,e5.1,by omega,λq=>absurd q hu,λ_ _=>⟨J,J⟩,λ_ q=>absurd q hs⟩⟩
theorem XH {t:aJ} (h:sN t): ∃L f out,tv.f t=some (out,0)/\Ct t L f out:=by
 have hl:=pd h;obtain⟨L,f,out,e,hL⟩:=ag' t hl.1 hl.2;refine⟨L,f,out,?_,hL⟩;unfold tv.f;rw[My t U,decide_eq_true h,aD,ah aX,e];rfl
theorem Ni {n:Int} (h0:0<=n) (h1:n<4294967296):((gi (b_ (IntKind.bits .u64) n&&&b_ (IntKind.bits .u64) 4294967295):Nat):Int)=n:=by
 obtain⟨k,rfl⟩: ∃k:Nat,n=(k:Int):=⟨n.toNat,by omega⟩
 have e1:(b_ (IntKind.bits .u64) (k:Int)).toNat=k:=by
  show(b_ 64 (k:Int)).toNat=k
  rw[BitVec.toNat_ofInt];omega
 have e2:(b_ (IntKind.bits .u64) 4294967295).toNat=2^32-1:=by rfl
 rw[BitVec.toNat_and,e1,e2,Nat.and_two_pow_sub_one_eq_mod];omega
theorem sC {x:Int} (h1:0<=x) (h2:x<=18446744073709551615):fc x=x:=by
 unfold fc IntKind.wrap IntKind.signed IntKind.bits;simp;omega
theorem ahG {n:Int} (h0:0<=n) (h1:n<4294967296):uv.f 1 n=some (0,n):=by
 unfold uv.f DD.f;have a1:fS 1 (2^32)=0:=by rfl
 have a2:fS n (2^32)=0:=by rw[Int.fdiv_eq_ediv_of_nonneg _ U];omega
 have a3:((gi (b_ (IntKind.bits .u64) 1&&&b_ (IntKind.bits .u64) 4294967295):Nat):Int)=1:=Ni U U;have a4:=Ni h0 h1;have w0:fc 0=0:=sC U U;have w1:fc 1=1:=sC U U;have wn:fc n=n:=sC h0 U;have a5:((gi (b_ (IntKind.bits .u64) 0&&&b_ (IntKind.bits .u64) 4294967295):Nat):Int)=0:=Ni U U;have f0:fS 0 (2^32)=0:=by rfl
 simp only[a1,a2,a3,a4,Int.zero_mul,Int.mul_zero,Int.one_mul,w0,w1,wn,Int.zero_add,a2,a5,f0,aD]
theorem ai' {v:Int}: ∀(n k:Nat) (x:List Int) (i:Int),i+n≥x.length->1<=i->(x.length:Int)<=1000000000->n<k->(∀j:Int,0<=j->j<i->j<x.length->rd x j=v)->
 kN.l0 k x i=some (cy x.length v):=by
 intro n
 induction n with
 |zero=>
  intro k x i hi h1 hb hk hx;obtain⟨k,rfl⟩:=bl hk;rw[kN.l0,ah U]
  congr 1
  apply xe aX;intro j j0 j1;rw[hx j j0 U j1,uC j0 U]
 |succ n ih=>
  intro k x i hi h1 hb hk hx;obtain⟨k,rfl⟩:=bl hk
  by_cases hq:i<x.length
  ·have s1:(aB x 0 i).length=i.toNat:=by rw[je U];omega
   have s2:(aB x i (x.length:Int)).length=(x.length-i.toNat):=by rw[je U];omega
   rw[kN.l0,ag hq,ag U,ag U,s1,s2];have hlen:(cC x i.toNat (min i.toNat (x.length-i.toNat)) (aB x 0 i)).length=x.length:=Bj U (by rw[s1];omega)
   rw[bg U U];have:=ih k (cC x i.toNat (min i.toNat (x.length-i.toNat)) (aB x 0 i)) (i+((min i.toNat (x.length-i.toNat):Nat):Int)) (by rw[hlen];omega) U (by rw[hlen];omega) U (λj j0 j1 j2=>?_)
   ·rw[this,hlen]
   ·rw[hlen] at j2;unfold cC
    by_cases wP:j<i
    ·rw[vG j0 (by rw[List.length_take];omega)]
     have:rd (x.take i.toNat) j=rd x j:=by
      unfold rd;simp[List.getD,List.getElem?_take,show j.toNat<i.toNat by omega]
     rw[this];exact hx j j0 wP U
    ·rw[nt (by rw[List.length_take];omega),List.length_take,show((min i.toNat x.length:Nat):Int)=i by omega]
     rw[vG U (by rw[List.length_take,s1];omega)]
     have:rd ((aB x 0 i).take (min i.toNat (x.length-i.toNat))) (j-i)=rd x (j-i):=by
      unfold rd aB;simp[List.getD,List.getElem?_take,show(j-i).toNat<i.toNat by omega,show(j-i).toNat<x.length-i.toNat by omega]
      rw[ag U]
     rw[this];exact hx (j-i) U U U
  ·rw[kN.l0,ah hq]
   congr 1
   apply xe aX;intro j j0 j1;rw[hx j j0 U j1,uC j0 U]
theorem Yj {v:Int} {n:Nat} (h0:1<=n) (h1:n<=1000000000):kN.f [v] (n:Int)=some (cy n v):=by
 unfold kN.f;have e1:fc (([v]:List Int).length:Int)=1:=by rw[show(([v]:List Int).length:Int)=1 from rfl];exact sC U U
 rw[ah U,e1,sC (x:=(n:Int)) U U,ahG U U,aD];simp only;rw[ah bf,bg U U,ag U,Int.toNat_natCast];have e2:min ([v]:List Int).length (cy n (0:Int)).length=1:=by rw[List.length_replicate];simp;omega
 rw[e2];have e3:cC (cy n (0:Int)) 0 1 [v]=v::cy (n-1) 0:=by
  unfold cC;simp
 have hl:(v::cy (n-1) (0:Int)).length=n:=by simp;omega
 rw[e3,ai' (v:=v) n fuel _ ((1:Nat):Int) U U U (by rw[cI];omega) (λj j0 j1 _=>by
  rw[show j=0 by omega];rfl),hl]
 rfl
theorem ai_: ∀(k:Nat) (x:List Int) (i:Int),qx.l0 k x i=kN.l0 k x i:=by
 intro k
 induction k with
 |zero=>intros;rfl
 |succ k ih=>intro x i;rw[qx.l0,kN.l0];simp only[ih]
theorem aja {v:Int} {n:Nat} (h0:1<=n) (h1:n<=1000000000):qx.f [v] (n:Int)=some (cy n v):=by
 rw[<-Yj h0 h1];unfold qx.f kN.f;simp only[ai_]
theorem RY {x:Int} (h0:0<=x) (h1:x<=4294967295):(((b_ (IntKind.bits .u64) x&&&b_ (IntKind.bits .u64) 4294967295).toNat:Nat):Int)=x:=by
 rw[BitVec.toNat_and];have e1:(b_ (IntKind.bits .u64) 4294967295).toNat=2^32-1:=by decide
 have e2:(b_ (IntKind.bits .u64) x).toNat=x.toNat:=by
  rw[BitVec.toNat_ofInt]
  show(x%((2^64:Nat):Int)).toNat=x.toNat
  rw[Int.emod_eq_of_lt h0 U]
 rw[e1,e2,Nat.and_two_pow_sub_one_eq_mod,Nat.mod_eq_of_lt U];omega
theorem Oa {x:Int} (h0:0<=x) (h1:x<=4294967295):fS x (2^32)=0:=by
 rw[Int.fdiv_eq_ediv_of_nonneg _ U];exact Int.ediv_eq_zero_of_lt h0 U
theorem SB {x y:Int} (hx:0<=x/\x<=1) (hy:0<=y/\y<=65536):uv.f x y=some (0,x*y):=by
 have Ie:0<=x*y/\x*y<=65536:=by
  have:x=0∨x=1:=U;rcases this with rfl |rfl<;>omega
 unfold uv.f DD.f;simp only[aD];rw[Oa hx.1 U,Oa hy.1 U];simp only[Int.zero_mul,Int.mul_zero];rw[RY hx.1 U,RY hy.1 U,sC hx.1 U,sC hy.1 U,sC Ie.1 U,Oa Ie.1 U];have z:fc 0=0:=sC U U;simp only[Int.add_zero,z];have f0:fS 0 (2^32)=0:=by decide
 rw[f0];have a0:(((b_ (IntKind.bits .u64) 0&&&b_ (IntKind.bits .u64) 4294967295).toNat:Nat):Int)=0:=by decide
 simp only[a0,z,Int.add_zero,f0]
theorem abO {c m:Int} {v1:Int×Int} (hv:af v1.2=m) (hm:1<=m/\m<=8192): ∀(n k:Nat) (x:List Int) (p:Int),p+n=m->1<=p->n<k->(x.length:Int)=m->(∀j:Int,0<=j->j<p->rd x j=c)->
 kX.l0 k v1 m x p=some (cy m.toNat c):=by
 intro n
 induction n using Nat.strongRecOn with
 |_ n ih=>
  intro k x p hp p1 hk hx hc;obtain⟨k,rfl⟩:=bl hk;rw[kX.l0,hv]
  by_cases hn:n=0
  ·rw[ah U]
   congr 1
   refine xe bf (λj j0 j1=>?_);rw[hc j j0 U,uC j0 U]
  ·have acZ:(if m<p then m else p)=p:=by rw[ah U]
   rw[ag U,acZ,ag U,ag U];have vu:(aB x 0 p).length=p.toNat:=by simp[aB];omega
   have rP:(aB x p (x.length:Int)).length=(m-p).toNat:=by simp[aB];omega
   have eU:(cC x p.toNat (min (aB x 0 p).length (aB x p (x.length:Int)).length) (aB x 0 p)).length=x.length:=Bj U U;rw[vu,rP] at eU⊢;rw[bg U U];refine ih (n-(min p.toNat (m-p).toNat)) U k _ _ U U U U (λj j0 j1=>?_);have Ls:rd (cC x p.toNat (min p.toNat (m-p).toNat) (aB x 0 p)) j=if j<p then rd x j else rd x (j-p):=by
    unfold cC
    by_cases hj:j<p
    ·rw[ag hj,vG j0 bf];unfold rd;rw[alV,alV,alW U]
    ·rw[ah hj,nt bf,vG bf (by simp[aB];omega)]
     have e:j-((List.take p.toNat x).length:Int)=j-p:=by simp;omega
     rw[e];unfold rd aB;rw[alV,alV,alW U,alW U];simp
   rw[Ls]
   by_cases hj:j<p
   ·rw[ag hj];exact hc j j0 hj
   ·rw[ah hj];exact hc (j-p) U U
theorem I0 {c m:Int} (hm:1<=m/\m<=8192):kX.f [c] m=some (cy m.toNat c):=by
 unfold kX.f;have e1:fc ((aa [c]:Nat):Int)=1:=sC aX aX;have e2:fc m=m:=sC U U;rw[ah bf,ah U,e1,e2,SB U U,aD,Int.one_mul];have e3:af m=m:=bg U U;have hb:((decide ((0:Int)>0))||(decide (m>9223372036854775807)))=false:=by
  rw[decide_eq_false U,decide_eq_false U];rfl
 simp only[hb,e3];rw[ah aX,ah aX,ah U,aD,ag U];refine aat (ah5 m) (λx hx=>?_);obtain⟨hl,_⟩:=hx;rw[ag U];have Fj:min (aa [c]) x.length=1:=by simp;omega
 rw[Fj];have:=abO (c:=c) (v1:=(0,m)) (m:=m) e3 hm (m-1).toNat fuel (cC x 0 1 [c]) 1 U U (by rw[sY];omega) (by rw[Bj U aX];omega) (λj j0 j1=>by
  have:j=0:=U;subst this;simp[cC];rfl)
 rw[show(((1:Nat):Int))=1 by rfl,this,aD]
theorem Yi {m:Int} (hm:1<=m/\m<=8192):kX.f [] m=some []:=by
 unfold kX.f;have e1:fc ((aa ([]:List Int):Nat):Int)=0:=sC aX aX;have e2:fc m=m:=sC U U;rw[ah bf,ah U,e1,e2,SB U U,aD,Int.zero_mul];simp
theorem DY {L:List Int} {lo hi j:Int} (h0:0<=lo) (j0:0<=j) (j1:lo+j<hi):rd (aB L lo hi) j=rd L (lo+j):=by
 unfold rd aB;rw[alV,alV,alW U,List.getElem?_drop,show(lo+j).toNat=lo.toNat+j.toNat by omega]
theorem uT {L:List Int} {lo hi:Int} (h0:0<=lo) (h1:lo<=hi) (h2:hi<=L.length):((aB L lo hi).length:Int)=hi-lo:=by rw[je ⟨h0,h1,h2⟩];omega
theorem Jm {L:List Int} {lo hi:Int} {P:Int->Prop} (h: ∀y∈L,P y): ∀y∈aB L lo hi,P y:=λy hy=>h y (List.mem_of_mem_drop (List.mem_of_mem_take hy))
theorem Mx {b:List Int} {a n:Int} (hb:b.length<=100000) (a0:0<=a) (a1:a<=b.length) (h:b.length<a+n):nZ.f ⟨b,a⟩ n=some ([],.dW 6,⟨b,a⟩):=by
 unfold nZ.f;simp only;rw[bg (x:=_-a) U U,ag U]
theorem Mw {b:List Int} {a n:Int} (hb:b.length<=100000) (a0:0<=a) (n0:0<=n) (h:a+n<=b.length):nZ.f ⟨b,a⟩ n=some (aB b a (a+n),.nil,⟨b,a+n⟩):=by
 unfold nZ.f;simp only;rw[bg (x:=_-a) U U,ah U,bg (x:=a+n) U U,bg (x:=a+n-n) U U,ag U,show a+n-n=a by omega]
inductive ou where
 |short:ou
 |form:ou
 |ok:List Int->Int->ou
theorem u8 {b:List Int} (hb: ∀y∈b,dZ y) {i:Int} (h0:0<=i) (h1:i<b.length):0<=rd b i/\rd b i<=255:=by
 have:=hb _ (tz h0 h1);unfold dZ at this;omega
theorem ac0 {C b:List Int} (hC: ∀y∈C,1<=y/\y<=255) (hl:C.length<=256) (hb:b.length<=100000) (c:Int) {i:Int} {L:List Int} (he:Co C i L): ∀(a:Int) (k:Nat),0<=i->i<=C.length->C.length-i<k->0<=a->a<=b.length->
 (∀j:Int,0<=j->j<L.length->a+j<b.length->rd b (a+j)=rd L j)->(i=0∨i=C.length∨rd C (i-1)≠rd C i)->
 (a+L.length<=b.length->lQ.l0 k ⟨b,c⟩ C.length a (C.take i.toNat)=some (.inr (C,a+L.length)))/\
 (¬a+L.length<=b.length-> ∃q,lQ.l0 k ⟨b,c⟩ C.length a (C.take i.toNat)=some (.inl ([],.dW 6,⟨b,q⟩))):=by
 induction he with
 |done=>
  intro a k i0 i1 hk a0 a1 vj iq;obtain⟨k,rfl⟩: ∃q,k=q+1:=⟨k-1,by omega⟩
  rw[lQ.l0,ah aX];exact⟨λ_=>by simp,λq=>absurd (by simpa using a1) q⟩
 | @run i e L i0' e1 hie same stop rest ih=>
  intro a k i0 i1 hk a0 a1 vj iq;obtain⟨k,rfl⟩: ∃q,k=q+1:=⟨k-1,by omega⟩
  have nU:((C.take i.toNat).length:Int)=i:=by simp;omega
  rw[lQ.l0,nU,ag U]
  by_cases hs:(b.length:Int)<a+2
  ·rw[Mx hb a0 a1 hs];exact⟨λq=>by simp at q;omega,λ_=>⟨a,J⟩⟩
  ·have OA:a+2<=b.length:=U;rw[Mw hb a0 U OA,aD];simp only[Er.isNil,mV,gj,if_false];have r0:rd (aB b a (a+2)) 0=e-1:=by
    rw[DY a0 U U,vj 0 U bf U];rfl
   have r1:rd (aB b a (a+2)) 1=rd C i:=by
    rw[DY a0 U U,vj 1 U bf U];rfl
   have sl:((aB b a (a+2)).length:Int)=2:=by rw[uT a0 U OA];omega
   have rN:=hC _ (tz i0 (show i<(C.length:Int) by omega))
   rw[sl,r0,r1,ag U,ag U,bg (x:=e-1) U U,bg (x:=e-1+1) U U,bg (x:=(C.length:Int)-i) U U];have z':(rd C i==0)=false:=by simp;omega
   have g':decide (e-1+1>(C.length:Int)-i)=false:=by simp;omega
   simp only[z',g',Bool.false_or,gj,if_false];have go:((a+(((e-1)::rd C i::L).length:Nat)<=b.length->((kX.f [rd C i] (e-1+1)).bind λv12=>if(C.take i.toNat).length+v12.length<=1099511627776 then lQ.l0 k ⟨b,c⟩ C.length (a+2) (C.take i.toNat++v12) else none)=some (.inr (C,a+(((e-1)::rd C i::L).length:Nat)))))/\
    (¬a+(((e-1)::rd C i::L).length:Nat)<=b.length-> ∃q,((kX.f [rd C i] (e-1+1)).bind λv12=>if(C.take i.toNat).length+v12.length<=1099511627776 then lQ.l0 k ⟨b,c⟩ C.length (a+2) (C.take i.toNat++v12) else none)=some (.inl ([],.dW 6,⟨b,q⟩))):=by
    have PG:C.take i.toNat++cy (e-1+1).toNat (rd C i)=C.take (i+e).toNat:=by
     refine xe bf (λj j0 j1=>?_);have aS:j<i+e:=by simp at j1;omega
     have e2:rd (C.take (i+e).toNat) j=rd C j:=by
      unfold rd;rw[alV,alV,alW U]
     rw[e2]
     by_cases hj:j<i
     ·rw[vG j0 U];unfold rd;rw[alV,alV,alW U]
     ·rw[nt U,uC U U,same j U aS]
    rw[I0 U,aD,ag bf,PG];have:=ih (a+2) k U U U U OA (λj j0 j1 j2=>by
     have:=vj (j+2) U bf U;rw[show a+2+j=a+(j+2) by omega,this]
     unfold rd;rw[show(j+2).toNat=j.toNat+2 by omega];rfl) (by
     rcases stop with h |h
     ·exact .inr (.inl h)
     ·refine .inr (.inr ?_);rw[same (i+e-1) U U];exact λq=>h q.symm)
    have e3:a+(((e-1)::rd C i::L).length:Nat)=a+2+L.length:=by simp;omega
    rw[e3];exact this
   by_cases hz:i>0
   ·rw[ag hz,bg (x:=i-1) U U,ag U];have e2:rd (C.take i.toNat) (i-1)=rd C (i-1):=by
     unfold rd;rw[alV,alV,alW U]
    have bD:rd C (i-1)≠rd C i:=by
     rcases iq with h |h |h
     ·omega
     ·omega
     ·exact h
    have HU:(rd (C.take i.toNat) (i-1)==rd C i)=false:=by rw[e2];simpa using bD
    simp only[HU,gj,if_false,aD];exact go
   ·rw[ah hz];simp only[gj,if_false,aD];exact go
theorem NT {b:List Int} {a n:Int} (hb:b.length<=100000) (a0:0<=a) (a1:a<=b.length) (h:b.length<a+n):qW.f ⟨b,a⟩ n=some ([],.dW 6,⟨b,a⟩):=by
 unfold qW.f;rw[Mx hb a0 a1 h];rfl
theorem NS {b:List Int} {a n:Int} (hb:b.length<=100000) (a0:0<=a) (n0:0<=n) (h:a+n<=b.length):qW.f ⟨b,a⟩ n=some (aB b a (a+n),if 0∈aB b a (a+n) then .dW 5 else .nil,⟨b,a+n⟩):=by
 unfold qW.f;have hl:=uT a0 (show a<=a+n by omega) h
 rw[Mw hb a0 n0 h,aD];simp only[Er.isNil,if_true];rw[NR _ _ U];simp only[aD]
 by_cases hz:0∈aB b a (a+n)
 ·rw[ag hz,ag (by simpa using hz)]
 ·rw[ah hz,ah (by simpa using hz)]
theorem ai8 {t:aJ} {L:List Int} {f:Int} {out:List Int} (h1:1<=t.C.length) (hb:t.C.length<=256) (h:Ct t L f out):yQ.f t=some (f,out):=by
 unfold yQ.f;rw[h.runs,aD];have hge:=h.ge;have hle:=h.le;have hlen:(((2::L:List Int).length:Nat):Int)=L.length+1:=by simp
 rw[hlen]
 by_cases hu:uY t.C
 ·have:=h.two.mpr hu;obtain⟨e1,e2⟩:=h.Jq hu;rw[ag bf,ag U,e1,e2]
 ·have bD: ¬L.length=2:=λq=>hu (h.two.mp q);rw[ah bf,bg U U]
  by_cases hs:L.length<t.C.length
  ·obtain⟨e1,e2⟩:=h.short hu hs;rw[ag U,e1,e2]
  ·obtain⟨e1,e2⟩:=h.It hu hs;rw[ah U,ag bf,e1,e2];rfl
theorem TS {b:List Int} {w h n:Int} (hw:1<=w/\w<=16) (hh:1<=h/\h<=16) (hn:af (w*h)=n) {x:List Int} {q:Int} (hx:x.length<=100000) (hr:qV.f ⟨b,0⟩ n=some (x,.dW 6,⟨b,q⟩)):ql.f b w h=some (⟨0,0,[]⟩,0,2):=by
 unfold ql.f xc.f o_.f;have e:(((decide (w<1)||decide (w>16))||decide (h<1))||decide (h>16))=false:=by simp;omega
 rw[hn,hr];simp only[e,gj,if_false,aD,Er.isNil];rw[ag bf]
 rfl
theorem adA {b:List Int} {w h n:Int} (hw:1<=w/\w<=16) (hh:1<=h/\h<=16) (hn:af (w*h)=n) {x:List Int} {q:Int} (hx:x.length<=100000) (hr:qV.f ⟨b,0⟩ n=some (x,.dW 5,⟨b,q⟩)):ql.f b w h=some (⟨0,0,[]⟩,0,3):=by
 unfold ql.f xc.f o_.f;have e:(((decide (w<1)||decide (w>16))||decide (h<1))||decide (h>16))=false:=by simp;omega
 rw[hn,hr];simp only[e,gj,if_false,aD,Er.isNil];rw[ag bf]
 rfl
theorem TR {b:List Int} {w h n:Int} (hw:1<=w/\w<=16) (hh:1<=h/\h<=16) (hn:af (w*h)=n) {x:List Int} {p:Int} (hx:x.length<=100000) (hp:0<=p/\p<=b.length) (hr:qV.f ⟨b,0⟩ n=some (x,.nil,⟨b,p⟩)) {out:List Int} {f:Int} (Pz:tv.f ⟨w,h,x⟩=some (out,f)):
 ql.f b w h=some (if En out (aB b 0 p)=true then(⟨w,h,x⟩,p,0) else(⟨0,0,[]⟩,0,3)):=by
 unfold ql.f xc.f o_.f EP.f;have e:(((decide (w<1)||decide (w>16))||decide (h<1))||decide (h>16))=false:=by simp;omega
 rw[hn,hr];simp only[e,gj,if_false,aD,Er.isNil,if_true,List.nil_append];rw[ag bf];simp only[aD,Er.isNil,if_true];rw[Pz];simp only[aD];rw[ag U]
 cases hs:En out (aB b 0 p)
 ·rfl
 ·rfl
theorem adB {t:aJ} (h:sN t) (hu: ∀y∈t.C,1<=y/\y<=255) {L:List Int} {f:Int} {out:List Int} (Pz:tv.f t=some (out,0)) (hL:Ct t L f out) {b:List Int} (hb:b.length<=100000)
 (vj: ∀j:Int,0<=j->j<out.length->j<b.length->rd b j=rd out j):
 ql.f b t.W t.H=some (if out.length<=b.length then(t,(out.length:Int),0) else(⟨0,0,[]⟩,0,2)):=by
 obtain⟨w1,w2,h1,h2,hc,hz⟩:=h;have hl:1<=t.C.length/\t.C.length<=256:=pd ⟨w1,w2,h1,h2,hc,hz⟩;have hn:af (t.W*t.H)=t.C.length:=by rw[bg U U];omega
 have key:(out.length<=b.length->qV.f ⟨b,0⟩ t.C.length=some (t.C,.nil,⟨b,out.length⟩))/\(¬out.length<=b.length-> ∃x q,x.length<=100000/\qV.f ⟨b,0⟩ t.C.length=some (x,.dW 6,⟨b,q⟩)):=by
  unfold qV.f
  by_cases h0:(b.length:Int)=0
  ·rw[Mx hb U U U];refine⟨λq=>?_,λ_=>⟨[],0,by simp,J⟩⟩
   have h0':b.length=0:=U;rw[h0'] at q;have uo:out.length=0:=U
   by_cases kJ:uY t.C
   ·rw[(hL.Jq kJ).2] at uo;simp at uo
   ·by_cases hs:L.length<t.C.length
    ·rw[(hL.short kJ hs).2] at uo;simp at uo
    ·rw[(hL.It kJ hs).2] at uo;simp at uo
  ·rw[Mw hb U U U,aD];simp only[Er.isNil,mV,gj,if_false];have sl:((aB b 0 (0+1)).length:Int)=1:=by rw[uT U U U];omega
   have r0:rd (aB b 0 (0+1)) 0=rd b 0:=by rw[DY U U U,Int.add_zero]
   rw[ag (show 0<=(0:Int)/\(0:Int)<((aB b 0 (0+1)).length:Int) by omega),r0,show(0:Int)+1=1 by omega]
   by_cases kJ:uY t.C
   ·obtain⟨_,e⟩:=hL.Jq kJ;have ol:out.length=2:=by rw[e];rfl
    have b0:rd b 0=0:=by rw[vj 0 U U U,e];rfl
    rw[b0];simp only[beq_self_eq_true,if_true]
    by_cases hs:(b.length:Int)<2
    ·rw[NT hb U U U,aD,Yi U];exact⟨λq=>by omega,λ_=>⟨_,_,by simp,J⟩⟩
    ·have b1:rd b 1=rd t.C 0:=by rw[vj 1 U U U,e];rfl
     have e1:aB b 1 2=[rd t.C 0]:=by
      have vu:=uT (L:=b) (lo:=1) (hi:=2) U U U;refine xe bf (λj j0 j1=>?_);rw[DY U j0 U,show j=0 by omega,show(1:Int)+0=1 by omega,b1];rfl
     have hm:=hu _ (tz (a:=t.C) (i:=0) U U);rw[NS hb U U U,aD,show(1:Int)+1=2 by omega,e1,ah bf]
     simp only;rw[I0 U,aD];refine⟨λ_=>?_,λq=>by omega⟩
     have e2:cy (t.C.length:Int).toNat (rd t.C 0)=t.C:=by
      refine xe aX (λj j0 j1=>?_);rw[uC j0 (by simpa using j1),kJ j j0 (by simpa using j1)]
     rw[e2,ol];rfl
   ·by_cases hs:L.length<t.C.length
    ·obtain⟨_,e⟩:=hL.short kJ hs;have ol:out.length=L.length+1:=by rw[e];simp
     have b0:rd b 0=2:=by rw[vj 0 U U U,e];rfl
     rw[b0];have c0:((2:Int)==0)=false:=rfl;have c1:((2:Int)==1)=false:=rfl;simp only[c0,c1,gj,if_false,beq_self_eq_true,if_true];unfold lQ.f;obtain⟨k1,k2⟩:=ac0 hu hl.2 hb 1 hL.enc 1 fuel U U (by rw[sY];omega) U U (λj j0 j1 j2=>by
      rw[vj (1+j) U U U,e];unfold rd;rw[show(1+j).toNat=j.toNat+1 by omega];rfl) (.inl J)
     have et:t.C.take (0:Int).toNat=[]:=rfl;rw[et] at k1 k2;refine⟨λq=>?_,λq=>?_⟩
     ·rw[k1 U];simp only[aD];rw[show 1+(L.length:Int)=out.length by omega]
     ·obtain⟨q',k2⟩:=k2 U;rw[k2];exact⟨_,_,by simp,J⟩
    ·obtain⟨_,e⟩:=hL.It kJ hs;have ol:out.length=t.C.length+1:=by rw[e];simp
     have b0:rd b 0=1:=by rw[vj 0 U U U,e];rfl
     rw[b0];have c0:((1:Int)==0)=false:=rfl;simp only[c0,gj,if_false,beq_self_eq_true,if_true]
     by_cases hs:(b.length:Int)-1<t.C.length
     ·rw[NT hb U U U];exact⟨λq=>by omega,λ_=>⟨_,_,by simp,J⟩⟩
     ·have e1:aB b 1 (1+t.C.length)=t.C:=by
       have vu:=uT (L:=b) (lo:=1) (hi:=1+t.C.length) U U U;refine xe U (λj j0 j1=>?_);rw[DY U j0 U,vj (1+j) U U U,e];unfold rd;rw[show(1+j).toNat=j.toNat+1 by omega];rfl
      rw[NS hb U U U,e1,ah hz];refine⟨λ_=>?_,λq=>by omega⟩
      rw[show 1+(t.C.length:Int)=out.length by omega];rfl
 by_cases hlen:out.length<=b.length
 ·rw[ag hlen,TR ⟨w1,w2⟩ ⟨h1,h2⟩ hn U U (key.1 hlen) Pz];have e1:aB b 0 out.length=out:=by
   have vu:=uT (L:=b) (lo:=0) (hi:=out.length) U U U;refine xe U (λj j0 j1=>?_);rw[DY U j0 U,Int.zero_add,vj j j0 U U]
  rw[e1,akz,ag J]
 ·rw[ah hlen];obtain⟨x,q,hx,e⟩:=key.2 hlen;exact TS ⟨w1,w2⟩ ⟨h1,h2⟩ hn hx e
abbrev FU (w h s:Int):Nat:=((az w h s).1*(az w h s).2).toNat
theorem QW {w h s:Int} (hs:bE w h s):1<=FU w h s/\FU w h s<=256/\((FU w h s:Nat):Int)=(az w h s).1*(az w h s).2:=by
 obtain⟨z1,z2,z3,z4⟩:=qw hs;have h1:(az w h s).1*(az w h s).2<=16*16:=kc U U z2 z4;have h2:1*1<=(az w h s).1*(az w h s).2:=kc U U z1 z3;unfold FU;omega
theorem ajn {m:aJ} (hm:rC m) (s:Int):oW.f m s=some (di m s):=akI hm s
def pD (w h s c:Int):Prop:=16*(s%(bq w h).1)<=c%w/\c%w<16*(s%(bq w h).1)+(az w h s).1/\16*(s/(bq w h).1)<=c/w/\c/w<16*(s/(bq w h).1)+(az w h s).2
instance (w h s c:Int):Decidable (pD w h s c):=by unfold pD;infer_instance
def loc (w h s c:Int):Int:=(c/w-16*(s/(bq w h).1))*(az w h s).1+(c%w-16*(s%(bq w h).1))
theorem ajg {w h s:Int} (hs:bE w h s):16*(s%(bq w h).1)+(az w h s).1<=w/\16*(s/(bq w h).1)+(az w h s).2<=h:=by
 unfold az;rw[ag hs];simp only;omega
theorem P4 {w h s c:Int} (hs:bE w h s) (hi:pD w h s c):0<=loc w h s c/\loc w h s c<(az w h s).1*(az w h s).2:=by
 obtain⟨i1,i2,i3,i4⟩:=hi;unfold loc;exact sS U U U U
theorem adE {w h s c:Int} (hs:bE w h s) (hi:pD w h s c):cn w h s (loc w h s c)=c:=by
 have hl:=P4 hs hi;have⟨i1,i2,i3,i4⟩:=hi;have n:=qg (a:=(az w h s).1) (x:=c%w-16*(s%(bq w h).1)) (y:=c/w-16*(s/(bq w h).1)) U U;have hq:=u_ c w;rw[mW] at hq;unfold cn;rw[ag ⟨hs,hl⟩];unfold loc;rw[n.1,n.2];have e1:16*(s/(bq w h).1)+(c/w-16*(s/(bq w h).1))=c/w:=U;rw[e1];omega
theorem Yy {w h c:Int} (hc:bQ w h c): ∃s,bE w h s/\pD w h s c:=by
 have hs:=FW hc;obtain⟨a,b,d,e⟩:=Eb hc;have hn:=qg (a:=(bq w h).1) (x:=c%w/16) (y:=c/w/16) a b;have hp:=vF hc;refine⟨_,hs,?_⟩;unfold pD az;rw[ag hs,hn.1,hn.2];simp only;generalize c%w=x at*;generalize c/w=y at*;omega
theorem ajj {w a X tw c:Int} (hw:0<w) (X0:0<=X) (ht:X+tw<=w):(a*w+X<=c/\c<a*w+X+tw)↔(c/w=a/\X<=c%w/\c%w<X+tw):=by
 constructor
 ·rintro⟨h1,h2⟩;have:=qg (a:=w) (x:=c-a*w) (y:=a) U U;rw[show a*w+(c-a*w)=c by omega] at this
  obtain⟨e1,e2⟩:=this;rw[e1,e2];exact⟨J,by omega,by omega⟩
 ·rintro⟨rfl,h2,h3⟩;have:=u_ c w;rw[mW] at this;omega
theorem ai3 {x S:List Int} {p n c:Int} (p0:0<=p) (n0:0<=n) (hx:p+n<=x.length) (hS:n<=S.length) (c0:0<=c):rd (cC x p.toNat n.toNat S) c=if p<=c/\c<p+n then rd S (c-p) else rd x c:=by
 unfold cC
 by_cases h1:c<p
 ·rw[ah U,vG c0 bf];unfold rd;rw[alV,alV,alW U]
 ·have e:c-((List.take p.toNat x).length:Int)=c-p:=by simp;omega
  rw[nt bf,e]
  by_cases h2:c<p+n
  ·rw[ag ⟨by omega,h2⟩,vG U bf]
   unfold rd;rw[alV,alV,alW U]
  ·rw[ah U,nt bf];have e2:c-p-((List.take n.toNat S).length:Int)=c-p-n:=by simp;omega
   rw[e2];unfold rd;rw[alV,alV,List.getElem?_drop,show p.toNat+n.toNat+(c-p-n).toNat=c.toNat by omega]
theorem WL {w h s:Int} (hs:bE w h s) {t:aJ} (hW:t.W=(az w h s).1) (hH:t.H=(az w h s).2) (hC:(t.C.length:Int)=(az w h s).1*(az w h s).2) {x:List Int} (hx:(x.length:Int)=w*h):
 ∃x',pt.f ⟨w,h,x⟩ s t=some x'/\(x'.length:Int)=w*h/\ ∀c,0<=c->c<w*h->rd x' c=if pD w h s c then rd t.C (loc w h s c) else rd x c:=by
 have hz:=qw hs;have Pp:=uP hs;have hmp:=rW Pp;obtain⟨r1,r2⟩:=ajg hs;obtain⟨p1,p2,p3,p4⟩:=uQ hs;obtain⟨sn1,sn2,sn3⟩:=QW hs;unfold pt.f;simp only;rw[KI,aD];have hg:cn w h s 0=16*(s/(bq w h).1)*w+16*(s%(bq w h).1):=by
  unfold cn;rw[ag ⟨hs,by omega,by omega⟩,Int.zero_ediv,Int.zero_emod,Int.add_zero,Int.add_zero]
 rw[hg];generalize hX:16*(s%(bq w h).1)=X at*;generalize hY:16*(s/(bq w h).1)=Y at*;generalize PH:(az w h s).1=tw at*;generalize V0:(az w h s).2=th at*;have key: ∀(n k:Nat) (y:Int) (z:List Int),y+n=th->0<=y->n<k->(z.length:Int)=w*h->(∀c,0<=c->c<w*h->rd z c=if pD w h s c/\c/w<Y+y then rd t.C (loc w h s c) else rd x c)->
  ∃x',pt.l0 k ⟨w,h,x⟩ t (Y*w+X) z y=some x'/\(x'.length:Int)=w*h/\ ∀c,0<=c->c<w*h->rd x' c=if pD w h s c then rd t.C (loc w h s c) else rd x c:=by
  intro n
  induction n with
  |zero=>
   intro k y z hy y0 hk Wl PO;obtain⟨k,rfl⟩:=bl hk;refine⟨z,by rw[pt.l0,ah U],Wl,λc c0 c1=>?_⟩
   rw[PO c c0 c1]
   by_cases hi:pD w h s c
   ·have:c/w<Y+y:=by
     have⟨_,_,_,i4⟩:=hi;rw[hY,V0] at i4;omega
    rw[ag ⟨hi,this⟩,ag hi]
   ·rw[ah (λq=>hi q.1),ah hi]
  |succ n ih=>
   intro k y z hy y0 hk Wl PO;obtain⟨k,rfl⟩:=bl hk;have e1:(Y+y)*w=Y*w+y*w:=Int.add_mul _ _ _;have e2:(y+1)*tw=y*tw+tw:=by rw[Int.add_mul,Int.one_mul]
   have e3:(Y+y+1)*w=(Y+y)*w+w:=by rw[Int.add_mul,Int.one_mul]
   have b1:(Y+y+1)*w<=h*w:=Cw U U;have b2:h*w=w*h:=mW _ _;have b3:(y+1)*tw<=th*tw:=Cw U U;have b4:th*tw=tw*th:=mW _ _;have b5:0<=y*tw:=nV y0 U;have b6:0<=y*w:=nV y0 U;have b7:0<=Y*w:=nV U U;rw[pt.l0,hH,ag U];simp only;rw[hW,bg (x:=y*w) U U,bg (x:=Y*w+X+y*w) U U,bg (x:=y*tw) U U,bg (x:=y+1) U U,bg (x:=(y+1)*tw) U U];have hpe:Y*w+X+y*w=(Y+y)*w+X:=U;rw[hpe,ag U,ag U];have l1:=uT (L:=t.C) (lo:=y*tw) (hi:=(y+1)*tw) b5 U U;have l2:=uT (L:=z) (lo:=(Y+y)*w+X) (hi:=(z.length:Int)) U U U;have Fj:min (aB t.C (y*tw) ((y+1)*tw)).length (aB z ((Y+y)*w+X) (z.length:Int)).length=tw.toNat:=U;rw[Fj];have eU:(cC z ((Y+y)*w+X).toNat tw.toNat (aB t.C (y*tw) ((y+1)*tw))).length=z.length:=Bj U U;refine ih k (y+1) _ U U U U (λc c0 c1=>?_);rw[ai3 U U U U c0];have VV:=ajj (w:=w) (a:=Y+y) (X:=X) (tw:=tw) (c:=c) U U r1
   by_cases yw:(Y+y)*w+X<=c/\c<(Y+y)*w+X+tw
   ·obtain⟨q1,q2,q3⟩:=VV.mp yw;have bZ:pD w h s c:=by unfold pD;rw[hX,hY,PH,V0];exact⟨q2,q3,by omega,by omega⟩
    rw[ag yw,ag ⟨bZ,by omega⟩,DY b5 U U]
    congr 1
    unfold loc;rw[hX,hY,PH,q1];have e4:(Y+y-Y)*tw=y*tw:=by rw[show Y+y-Y=y by omega]
    have:=u_ c w;rw[mW,q1] at this;omega
   ·rw[ah yw,PO c c0 c1]
    by_cases bZ:pD w h s c
    ·have⟨i1,i2,i3,i4⟩:=bZ;rw[hX] at i1;rw[hX,PH] at i2;have bD:c/w≠Y+y:=λq=>yw (VV.mpr ⟨q,i1,i2⟩)
     by_cases aS:c/w<Y+y
     ·rw[ag ⟨bZ,aS⟩,ag ⟨bZ,by omega⟩]
     ·rw[ah (λq=>aS q.2),ah (λq=>by have:=q.2;omega)]
    ·rw[ah (λq=>bZ q.1),ah (λq=>bZ q.1)]
 exact key th.toNat fuel 0 x U U (by rw[sY];omega) hx (λc c0 c1=>by
  by_cases hi:pD w h s c
  ·have⟨_,_,i3,_⟩:=hi;rw[hY] at i3;rw[ah (λq=>by have:=q.2;omega)]
  ·rw[ah (λq=>hi q.1)])
theorem aib {x y:Nat} (hx:x<256):x|||(y*256)=x+256*y:=by
 have:=Nat.shiftLeft_add_eq_or_of_lt (b:=x) (i:=8) U y;rw[Nat.shiftLeft_eq] at this;have e8:(2:Nat)^8=256:=by decide
 rw[e8] at this;rw[Nat.or_comm,<-this];omega
theorem vr {x y:Int} (hx:dZ x) (hy:dZ y):af (gi (b_ (IntKind.bits .i64) (af x)|||b_ (IntKind.bits .i64) (af ((af y)*2^8))))=x+256*y:=by
 unfold dZ at hx hy;rw[bg (x:=x) U U,bg (x:=y) U U,bg (x:=y*2^8) U U,BitVec.toNat_or];have e: ∀z:Int,0<=z->z<=1000000->(b_ (IntKind.bits .i64) z).toNat=z.toNat:=by
  intro z z0 z1;rw[BitVec.toNat_ofInt]
  show(z%((2^64:Nat):Int)).toNat=z.toNat
  rw[Int.emod_eq_of_lt z0 U]
 rw[e x U U,e (y*2^8) U U];have e2:(y*2^8).toNat=y.toNat*256:=U;rw[e2,aib U,bg U U];omega
theorem Rq {x:Int}:bP x=x%256:=by
 unfold bP IntKind.wrap IntKind.signed IntKind.bits;simp
structure sL (m:aJ):Prop where
 ok:rC m
 rG: ∀y∈m.C,1<=y/\y<=255
theorem Mn {m:aJ} (hm:sL m) {s:Int} (hs:bE m.W m.H s):sN (di m s)/\ ∀y∈(di m s).C,1<=y/\y<=255:=by
 have hz:=qw hs;obtain⟨n1,n2,n3⟩:=QW hs;have hb: ∀y∈(di m s).C,1<=y/\y<=255:=by
  intro y hy;unfold di j4 at hy;simp only[List.mem_map,List.mem_range] at hy;obtain⟨l,hl,rfl⟩:=hy;have hg:=zR (l:=(l:Int)) hs U U;exact hm.rG _ (tz hg.1 (by rw[hm.ok.2.1];exact hg.2))
 refine⟨⟨hz.1,hz.2.1,hz.2.2.1,hz.2.2.2,?_,λq=>by have:=hb 0 q;omega⟩,hb⟩
 show((j4 m s (FU m.W m.H s)).length:Int)=_
 rw[B9,n3]
def vB (m:aJ) (s:Int):List Int:=((tv.f (di m s)).getD ([],0)).1
theorem Qo {m:aJ} (hm:sL m) {s:Int} (hs:bE m.W m.H s): ∃L f,tv.f (di m s)=some (vB m s,0)/\Ct (di m s) L f (vB m s):=by
 obtain⟨L,f,out,e,hL⟩:=XH (Mn hm hs).1;have:vB m s=out:=by unfold vB;rw[e];rfl
 exact⟨L,f,by rw[this];exact e,by rw[this];exact hL⟩
theorem Xq {t:aJ} (h:sN t) {L:List Int} {f:Int} {out:List Int} (hL:Ct t L f out):2<=out.length/\out.length<=1+t.C.length:=by
 have hl:=pd h;have h2:=hL.ge
 by_cases hu:uY t.C
 ·rw[(hL.Jq hu).2];simp;omega
 ·by_cases hs:L.length<t.C.length
  ·rw[(hL.short hu hs).2];simp;omega
  ·rw[(hL.It hu hs).2];simp;omega
theorem ac1 {t:aJ} (h:sN t) (hu: ∀y∈t.C,1<=y/\y<=255) {i:Int} {L:List Int} (he:Co t.C i L): ∀y∈L,dZ y:=by
 have hl:=pd h
 induction he with
 |done=>intro y hy;simp at hy
 | @run i e L i0 e1 hie same stop rest ih=>
  intro y hy;simp only[nK] at hy;have hm:=hu _ (tz i0 (show i<(t.C.length:Int) by omega))
  rcases hy with q |q |q
  ·rw[q];exact⟨by omega,by omega⟩
  ·rw[q];exact⟨by omega,by omega⟩
  ·exact ih y q
theorem aif {v:aJ} (hv:sN v) (hu: ∀y∈v.C,1<=y/\y<=255) {L:List Int} {f:Int} {out:List Int} (hL:Ct v L f out): ∀y∈out,dZ y:=by
 have hC: ∀y∈v.C,dZ y:=λy hy=>by have:=hu y hy;exact⟨by omega,by omega⟩
 have Wc:=pd hv
 by_cases hn:uY v.C
 ·rw[(hL.Jq hn).2];intro y hy;simp only[nK,tZ,or_false] at hy;rcases hy with q |q
  ·rw[q];exact⟨by omega,by omega⟩
  ·rw[q];exact hC _ (tz U U)
 ·by_cases hs:L.length<v.C.length
  ·rw[(hL.short hn hs).2];intro y hy;simp only[nK] at hy;rcases hy with q |q
   ·rw[q];exact⟨by omega,by omega⟩
   ·exact ac1 hv hu hL.enc y q
  ·rw[(hL.It hn hs).2];intro y hy;simp only[nK] at hy;rcases hy with q |q
   ·rw[q];exact⟨by omega,by omega⟩
   ·exact hC y q
def outs (m:aJ):Nat->Int->List Int
 |0,_=>[]
 |n+1,s=>vB m s++outs m n (s+1)
theorem Xr {m:aJ} (hm:sL m): ∀(n:Nat) (i:Int),i+n=dB m.W m.H->0<=i->(2*n<=(outs m n i).length/\(outs m n i).length<=257*n)/\ ∀y∈outs m n i,dZ y:=by
 intro n
 induction n with
 |zero=>intro i _ _;exact⟨by simp[outs],by simp[outs]⟩
 |succ n ih=>
  intro i hi i0;have hs:bE m.W m.H i:=⟨i0,by omega⟩
  obtain⟨L,f,e,hL⟩:=Qo hm hs;obtain⟨t1,t2⟩:=Mn hm hs;have hl:=Xq t1 hL;have hc:=pd t1;obtain⟨h1,h2⟩:=ih (i+1) U U;refine⟨by simp only[outs,tX];omega,λy hy=>?_⟩
  simp only[outs,List.mem_append] at hy;rcases hy with q |q
  ·exact aif t1 t2 hL y q
  ·exact h2 y q
def yn (m:aJ):List Int:=[bP m.W,bP (fS m.W (2^8)),bP m.H,bP (fS m.H (2^8))]
def bytesOf (m:aJ):List Int:=yn m++outs m (dB m.W m.H).toNat 0
theorem ajl {m:aJ} (hm:sL m): ∀(n k:Nat) (i:Int) (x:List Int),i+n=dB m.W m.H->0<=i->n<k->x.length<=10+257*i.toNat->lT.l0 k m x i=some (x++outs m n i):=by
 have jD:=oE m.W m.H;intro n
 induction n with
 |zero=>
  intro k i x hi i0 hk hx;obtain⟨k,rfl⟩:=bl hk;rw[lT.l0,Qy,aD,ah U];simp[outs]
 |succ n ih=>
  intro k i x hi i0 hk hx;obtain⟨k,rfl⟩:=bl hk;have hs:bE m.W m.H i:=⟨i0,by omega⟩
  obtain⟨L,f,e,hL⟩:=Qo hm hs;obtain⟨t1,t2⟩:=Mn hm hs;have hl:=Xq t1 hL;have hc:=pd t1;rw[lT.l0,Qy,aD,ag U,ajn hm.ok,aD,ai8 hc.1 hc.2 hL,aD];simp only;rw[ag U,bg U U,ih k (i+1) _ U U U (by simp only[tX];omega)]
  simp[outs]
theorem QJ {m:aJ} (hm:sL m):lT.f m=some (bytesOf m):=by
 have hc:=oE m.W m.H;unfold lT.f;exact ajl hm (dB m.W m.H).toNat fuel 0 (yn m) U U (by rw[sY];omega) (by simp[yn])
theorem afZ (m:aJ): ∀y∈yn m,dZ y:=by
 intro y hy;unfold yn at hy;simp only[nK,tZ,or_false,Rq] at hy;unfold dZ;rcases hy with q |q |q |q<;>omega
theorem SC {m:aJ} (hm:sL m): ∀y∈bytesOf m,dZ y:=by
 intro y hy;have hc:=oE m.W m.H;unfold bytesOf at hy;rw[List.mem_append] at hy;rcases hy with q |q
 ·exact afZ m y q
 ·exact(Xr hm (dB m.W m.H).toNat 0 U U).2 y q
theorem NC {m:aJ} (hm:sL m):6<=(bytesOf m).length/\(bytesOf m).length<=4+257*(dB m.W m.H).toNat:=by
 have hc:=oE m.W m.H;have hp:=acv hm.ok.1;have:=(Xr hm (dB m.W m.H).toNat 0 U U).1;unfold bytesOf;rw[tX];have:(yn m).length=4:=rfl;omega
theorem ac8 {x:Int} (h0:0<=x):fS x (2^8)=x/256:=by
 rw[Int.fdiv_eq_ediv_of_nonneg _ U];rfl
theorem Lb {w:Int} (h0:0<=w) (h1:w<=65535):bP w+256*bP (fS w (2^8))=w:=by
 rw[ac8 h0,Rq,Rq];omega
def MQ (b:List Int) (n:Int) (r:List Int×Er×fm):Prop:=
 r.2.2.b=b/\0<=r.2.2.bc/\r.2.2.bc<=b.length/\r.1.length<=1000/\(r.2.1= .dW 5∨r.2.1= .dW 6∨(r.2.1= .nil/\(r.1.length:Int)=n/\ ∀y∈r.1,1<=y/\y<=255))
section
variable {b : List Int} {n : Int}
theorem Q' (hl:b.length<=100000) {a m:Int} (a0:0<=a) (a1:a<=b.length) (m0:0<=m):(b.length<a+m/\nZ.f ⟨b,a⟩ m=some ([],.dW 6,⟨b,a⟩))∨(a+m<=b.length/\nZ.f ⟨b,a⟩ m=some (aB b a (a+m),.nil,⟨b,a+m⟩)):=by
 by_cases z:b.length<a+m
 ·exact .inl ⟨z,Mx hl a0 a1 z⟩
 ·exact .inr ⟨by omega,Mw hl a0 m0 U⟩
theorem S6 (hb: ∀y∈b,dZ y) (hl:b.length<=100000) {a m:Int} (a0:0<=a) (a1:a<=b.length) (m0:0<=m) (m1:m<=256):Ok (qW.f ⟨b,a⟩ m) (λr=>MQ b m r/\(r.1.length:Int)<=m):=by
 by_cases z:b.length<a+m
 ·exact Ok.of (NT hl a0 a1 z) ⟨⟨J,a0,a1,by simp,.inr (.inl J)⟩,by simpa using m0⟩
 ·have hs:=uT a0 (show a<=a+m by omega) (show a+m<=b.length by omega)
  refine Ok.of (NS hl a0 m0 U) ⟨⟨J,by simp only;omega,by simp only;omega,by simp only;omega,?_⟩,by simp only;omega⟩
  simp only
  by_cases y:0∈aB b a (a+m)
  ·rw[ag y];exact .inl J
  ·rw[ah y];refine .inr (.inr ⟨J,by omega,λx hx=>?_⟩)
   have h8:=Jm (P:=dZ) hb x hx;unfold dZ at h8;have:x≠0:=λq=>y (by rw[<-q];exact hx)
   omega
theorem ajv (hb: ∀y∈b,dZ y) (hl:b.length<=100000) (n1:1<=n/\n<=256) (q:Int): ∀(m k:Nat) (a:Int) (x:List Int),(b.length-a).toNat<=m->m<k->0<=a->a<=b.length->(x.length:Int)<=n->(∀y∈x,1<=y/\y<=255)->
 Ok (lQ.l0 k ⟨b,q⟩ n a x) (λz=>(∃e p,z= .inl ([],e,⟨b,p⟩)/\0<=p/\p<=b.length/\(e= .dW 5∨e= .dW 6))∨ ∃x' p,z= .inr (x',p)/\(x'.length:Int)=n/\0<=p/\p<=b.length/\ ∀y∈x',1<=y/\y<=255):=by
 intro m
 induction m with
 |zero=>
  intro k a x hm hk a0 a1 hx hy;obtain⟨k,rfl⟩:=bl hk;rw[lQ.l0];refine Ok.ite (λz=>?_) λz=>Ok.pure (.inr ⟨x,a,J,by omega,a0,a1,hy⟩)
  rcases Q' hl a0 a1 (show(0:Int)<=2 by omega) with⟨_,e⟩ |⟨t,e⟩
  ·exact Ok.eq e (Ok.pos J (Ok.pure (.inl ⟨_,_,J,a0,a1,.inr J⟩)))
  ·omega
 |succ m ih=>
  intro k a x hm hk a0 a1 hx hy;obtain⟨k,rfl⟩:=bl hk;rw[lQ.l0];refine Ok.ite (λz=>?_) λz=>Ok.pure (.inr ⟨x,a,J,by omega,a0,a1,hy⟩)
  rcases Q' hl a0 a1 (show(0:Int)<=2 by omega) with⟨_,e⟩ |⟨t,e⟩
  ·exact Ok.eq e (Ok.pos J (Ok.pure (.inl ⟨_,_,J,a0,a1,.inr J⟩)))
  ·refine Ok.eq e (Ok.neg (by simp[Er.isNil]) ?_)
   have hs:=uT a0 (show a<=a+2 by omega) t
   have r0:=dR (a:=aB b a (a+2)) (i:=0) U U;have r1:=dR (a:=aB b a (a+2)) (i:=1) U U;have u0:=Jm (P:=dZ) hb _ r0;have u1:=Jm (P:=dZ) hb _ r1;unfold dZ at u0 u1;simp only;generalize rd (aB b a (a+2)) 0=c at*;generalize rd (aB b a (a+2)) 1=v at*;rw[wi (x:=c) U U,wi (x:=c+1) U U,wi (x:=n-(x.length:Int)) U U,wi (x:=(x.length:Int)-1) U U];refine Ok.cz U (Ok.cz U ?_);refine Ok.bind (P:=λy:Bool=>y=false->v≠0/\c+1<=n-x.length) (Ok.ite (λy=>Ok.pure aX) λy=>?_) λy Fs=>?_
   ·have y: ¬(v=0∨c+1>n-x.length):=by simpa using y
    refine Ok.ite (λw=>Ok.cz U (Ok.pure λ_=>by omega)) λw=>Ok.pure λ_=>by omega
   ·refine Ok.ite (λw=>Ok.pure (.inl ⟨_,_,J,by omega,by omega,.inl J⟩)) λw=>?_
    obtain⟨v0,c1⟩:=Fs (by simpa using w)
    refine Ok.eq (I0 U) (Ok.cz bf (ih k (a+2) _ U U U U bf λy agk=>?_));rcases List.mem_append.1 agk with w |w
    ·exact hy y w
    ·have:=List.eq_of_mem_replicate w;omega
theorem abM (hb: ∀y∈b,dZ y) (hl:b.length<=100000) (n1:1<=n/\n<=256):Ok (qV.f ⟨b,0⟩ n) (MQ b n):=by
 unfold qV.f;rcases Q' (b:=b) hl (dU 0) U (show(0:Int)<=1 by omega) with⟨_,e⟩ |⟨t,e⟩
 ·exact Ok.eq e (Ok.pos J (Ok.pure ⟨J,dU _,by simp only;omega,by simp,.inr (.inl J)⟩))
 refine Ok.eq e (Ok.neg (by simp[Er.isNil]) ?_)
 have hs:=uT (L:=b) (dU 0) (show(0:Int)<=0+1 by omega) t
 refine Ok.cz (by simp only;omega) (Ok.ite (λz=>?_) λz=>Ok.ite (λz=>?_) λz=>Ok.ite (λz=>?_) λz=>Ok.pure ⟨J,by simp only;omega,by simp only;omega,by simp,.inl J⟩)
 ·refine(S6 hb hl (a:=0+1) (m:=1) U U U U).bind λr hr=>?_
  obtain⟨⟨h1,h2,h3,h4,h5⟩,h9⟩:=hr;rcases h5 with h5 |h5 |⟨h5,h6,h7⟩
  rotate_left 2
  ·obtain⟨y,hy⟩: ∃y,r.1=[y]:=List.length_eq_one_iff.1 U;have:=h7 y (by rw[hy];exact jj ..)
   rw[hy];refine Ok.eq (I0 U) (Ok.pure ⟨J,h2,h3,by simp;omega,.inr (.inr ⟨h5,by simp;omega,λx hx=>?_⟩)⟩)
   have:=List.eq_of_mem_replicate hx;omega
  all_goals
   obtain⟨x,ex,lx⟩: ∃x,kX.f r.1 n=some x/\x.length<=1000:=by
    cases vu:r.1 with
    |nil=>exact⟨_,Yi U,by simp⟩
    |cons c l=>
     rw[vu] at h9;have:l=[]:=List.length_eq_zero_iff.1 (by simp at h9;omega)
     subst this;exact⟨_,I0 U,by simp;omega⟩
   exact Ok.eq ex (Ok.pure ⟨J,h2,h3,lx,by simp[h5]⟩)
 ·refine(S6 hb hl (a:=0+1) (m:=n) U U U U).bind λr hr=>Ok.pure ?_
  obtain⟨⟨h1,h2,h3,h4,h5⟩,_⟩:=hr;exact⟨J,h2,h3,h4,h5⟩
 ·unfold lQ.f;refine Ok.bind (P:=MQ b n) ?_ λr hr=>Ok.pure ⟨J,hr.2.1,hr.2.2.1,hr.2.2.2.1,hr.2.2.2.2⟩
  refine(ajv hb hl n1 (0+1) 100000 fuel (0+1) [] U (by rw[cI];omega) U U bf aX).bind λz hz=>?_
  rcases hz with⟨e',p,rfl,p0,p1,he⟩ |⟨x',p,rfl,hx,p0,p1,hy⟩
  ·exact Ok.pure ⟨J,p0,p1,by simp,he.imp id .inl⟩
  ·exact Ok.pure ⟨J,p0,p1,by simp only;omega,.inr (.inr ⟨J,hx,hy⟩)⟩
end
theorem QD {x:Int} (h0:0<=x) (h1:x<=255): ∃v,xf.f x=some v/\1<=v/\v<=255:=by
 unfold xf.f;rw[nF h0,nF h0]
 by_cases h7:x%8=7
 ·rw[ag (by simpa using h7)];exact⟨_,J,by omega,by omega⟩
 ·rw[ah (by simpa using h7)]
  by_cases h2:x<160
  ·rw[ag h2,Gb U U];exact⟨_,J,by omega,by omega⟩
  ·rw[ah h2];exact⟨_,J,by omega,by omega⟩
theorem ahh {c:List Int} (hc: ∀y∈c,0<=y/\y<=255) {w h:Int} (hw:1<=w/\w<=40) (hh:1<=h/\h<=40): ∀(n k:Nat) (x:List Int) (i:Int),i+n=w*h->i=x.length->n<k->(∀y∈x,1<=y/\y<=255)->
 ∃m,lS.l0 k c w h x i=some m/\m.W=w/\m.H=h/\(m.C.length:Int)=w*h/\ ∀y∈m.C,1<=y/\y<=255:=by
 have Po:w*h<=40*40:=kc U U hw.2 hh.2;have Dh:0<=w*h:=nV U U;intro n
 induction n with
 |zero=>
  intro k x i hi hx hk ha;obtain⟨k,rfl⟩: ∃q,k=q+1:=⟨k-1,by omega⟩
  rw[lS.l0,bg (x:=w*h) U U,ah U];exact⟨_,J,J,J,by simp only;omega,ha⟩
 |succ n ih=>
  intro k x i hi hx hk ha;obtain⟨k,rfl⟩: ∃q,k=q+1:=⟨k-1,by omega⟩
  rw[lS.l0,bg (x:=w*h) U U,ag U];have next: ∀v,1<=v->v<=255-> ∃m,lS.l0 k c w h (x++[v]) (af (i+1))=some m/\m.W=w/\m.H=h/\(m.C.length:Int)=w*h/\ ∀y∈m.C,1<=y/\y<=255:=by
   intro v v0 v1;rw[bg U U];refine ih k _ (i+1) U bf U (λy hy=>?_);rw[List.mem_append] at hy;rcases hy with hy |hy
   ·exact ha y hy
   ·simp at hy;omega
  by_cases hz:(c.length:Int)>0
  ·have bD: ¬(c.length:Int)=0:=U;rw[ag hz,ag bD,ag bD];have yu:0<=af (i+af (af (dm i c.length)*5)):=by
    have hd:0<=i/c.length/\i/c.length<=i:=⟨Int.ediv_nonneg U U,Int.ediv_le_self _ U⟩;rw[qz U,bg (x:=i/_) U U,bg (x:=_*5) U U,bg U U];omega
   have r0:0<=fJ (af (i+af (af (dm i c.length)*5))) c.length:=by rw[nF yu];exact Int.emod_nonneg _ U
   have r1:fJ (af (i+af (af (dm i c.length)*5))) c.length<c.length:=by rw[nF yu];exact A9 _ U
   rw[ag ⟨r0,r1⟩];have jE:=tz (a:=c) r0 r1;obtain⟨q0,q1⟩:=hc _ jE;obtain⟨v,e,v0,v1⟩:=QD q0 q1;rw[e,aD,ag U];exact next v v0 v1
  ·rw[ah hz];obtain⟨v,e,v0,v1⟩:=QD (x:=1) U U;rw[e,aD,ag U];exact next v v0 v1
theorem ahg (w h:Int) {c:List Int} (hc: ∀y∈c,0<=y/\y<=255): ∃m,lS.f w h c=some m/\rC m/\m.W<=40/\m.H<=40/\ ∀y∈m.C,1<=y/\y<=255:=by
 unfold lS.f;have h1:=Rn (n:=w) (lo:=1) (hi:=40) U;have h2:=Rn (n:=h) (lo:=1) (hi:=40) U;rw[Rm U U U U,Rm U U U U];simp only[aD];generalize 1+w%(40-1+1)=a at h1⊢;generalize 1+h%(40-1+1)=b at h2⊢;have Po:a*b<=40*40:=kc U U h1.2 h2.2;have Dh:0<=a*b:=nV U U;obtain⟨m,e,e1,e2,e3,e4⟩:=ahh hc h1 h2 (a*b).toNat fuel [] 0 U aX (by rw[sY];omega) aX
 refine⟨m,e,⟨⟨by omega,by omega,by omega,by omega⟩,by rw[e1,e2];exact e3,λh0=>?_⟩,by omega,by omega,e4⟩
 have:=e4 0 h0;omega
section
theorem adz {b:List Int} (hb: ∀y∈b,dZ y) (hl:b.length<=100000) {w h:Int} (hw:1<=w/\w<=16) (hh:1<=h/\h<=16):
 Ok (ql.f b w h) (λr=>(r.2.2=2∨r.2.2=3)∨(r.2.2=0/\r.1.W=w/\r.1.H=h/\(r.1.C.length:Int)=w*h/\(∀y∈r.1.C,1<=y/\y<=255)/\0<=r.2.1/\r.2.1<=b.length)):=by
 have hn:1*1<=w*h:=kc U U hw.1 hh.1;have HR:w*h<=16*16:=kc U U hw.2 hh.2;have PM:af (w*h)=w*h:=wi U U;obtain⟨⟨x,e,rr⟩,hr,h1,h2,h3,h4,h5⟩:=abM hb hl (n:=w*h) U;simp only at h1 h2 h3 h4 h5;obtain⟨rb,p⟩:=rr;simp only at h1 h2 h3;subst h1;rcases h5 with rfl |rfl |⟨rfl,h6,h7⟩
 ·exact Ok.of (adA hw hh PM U hr) (.inl (.inr J))
 ·exact Ok.of (TS hw hh PM U hr) (.inl (.inl J))
 ·have ht:sN ⟨w,h,x⟩:=⟨hw.1,hw.2,hh.1,hh.2,h6,λq=>by have:=h7 0 q;omega⟩
  obtain⟨L,f,out,e,_⟩:=XH ht;refine Ok.of (TR hw hh PM U ⟨h2,h3⟩ hr e) ?_;split
  ·exact .inr ⟨J,J,J,h6,h7,h2,h3⟩
  ·exact .inl (.inr J)
theorem R0:zM.f .nil=some none:=rfl
theorem R4 (n:Int):zM.f (.num 243 n)=some (some n):=rfl
theorem aaB (q n:Int):zM.f (.wrap 301 [q] (.num 243 n))=some (some n):=rfl
theorem ai4 {w h:Int} (Pp:gS w h) {b:List Int} (hw:rd b 0+256*rd b 1=w) (hh:rd b 2+256*rd b 3=h) (u0:dZ (rd b 0)) (u1:dZ (rd b 1)) (u2:dZ (rd b 2)) (u3:dZ (rd b 3)):
 ∀(n k:Nat) (i:Int) (r x:List Int),i+n=dB w h->0<=i->n<k->(∀y∈r,dZ y)->r.length<=100000->(x.length:Int)=w*h->
 (∀c,0<=c->c<w*h->(∃s,0<=s/\s<i/\bE w h s/\pD w h s c)->1<=rd x c/\rd x c<=255)->
 Ok (na.l0 k b (dB w h) r x i) (λres=>(∃e c,res=(⟨0,0,[]⟩,e)/\zM.f e=some (some c)/\(c=2∨c=3))∨ ∃x',res=(⟨w,h,x'⟩,.nil)/\(x'.length:Int)=w*h/\ ∀c,0<=c->c<w*h->1<=rd x' c/\rd x' c<=255):=by
 have jD:=oE w h;intro n
 induction n with
 |zero=>
  intro k i r x hi i0 hk hr HZ hx ha;obtain⟨k,rfl⟩:=bl hk;rw[na.l0,vr u0 u1,vr u2 u3,hw,hh,ah U];refine Ok.ite (λhz=>Ok.pure (.inl ⟨_,3,J,J,.inr J⟩)) λhz=>Ok.pure (.inr ⟨x,J,hx,λc c0 c1=>?_⟩);obtain⟨s,s1,s2⟩:=Yy (w:=w) (h:=h) (c:=c) ⟨Pp,c0,c1⟩;exact ha c c0 c1 ⟨s,s1.1,by have:=s1.2;omega,s1,s2⟩
 |succ n ih=>
  intro k i r x hi i0 hk hr HZ hx ha;obtain⟨k,rfl⟩:=bl hk;have hs:bE w h i:=⟨i0,by omega⟩
  have hz:=qw hs;rw[na.l0,vr u0 u1,vr u2 u3,hw,hh];refine Ok.pos U (Ok.eq (F0 ..) ((adz hr HZ ⟨hz.1,hz.2.1⟩ ⟨hz.2.2.1,hz.2.2.2⟩).bind λres PB=>?_));rcases PB with q |⟨q1,tW,tH,tC,tB,p0,p1⟩
  ·exact Ok.pos (by rcases q with q |q<;>simp[q]) (Ok.pure (.inl ⟨_,res.2.2,rfl,aaB _ _,q⟩))
  ·obtain⟨x1,f1,f2,f3⟩:=WL hs (t:=res.1) tW tH tC (x:=x) hx;have sl:=uT (L:=r) (lo:=res.2.1) (hi:=(r.length:Int)) p0 p1 U;rw[wi (x:=i+1) U U];refine Ok.neg (by simp[q1]) (Ok.eq f1 (Ok.cz U (ih k (i+1) _ x1 U U U (Jm hr) U f2 λc c0 c1 ⟨s,s0,s1,s2,s3⟩=>?_)))
   rw[f3 c c0 c1]
   by_cases z:pD w h i c
   ·rw[ag z];have Pn:=P4 hs z;exact tB _ (tz Pn.1 U)
   ·rw[ah z];refine ha c c0 c1 ⟨s,s0,?_,s2,s3⟩;have:s≠i:=λq=>z (by rw[<-q];exact s3)
    omega
theorem aaj {b:List Int} (hb: ∀y∈b,dZ y) (hl:b.length<=100000):Ok (vb.f b) (λr=>(r.2=2∨r.2=3)∨(r.2=0/\rC r.1/\(∀c:Int,0<=c->c<r.1.W*r.1.H->1<=rd r.1.C c/\rd r.1.C c<=255)/\r.1.W=rd b 0+256*rd b 1/\r.1.H=rd b 2+256*rd b 3)):=by
 unfold vb.f na.f
 by_cases h4:(b.length:Int)<4
 ·rw[ag h4];exact Ok.eq J (Ok.eq (R4 2) (Ok.pos J (Ok.pure (.inl (.inl J)))))
 have u0:dZ (rd b 0):=hb _ (tz U U);have u1:dZ (rd b 1):=hb _ (tz U U);have u2:dZ (rd b 2):=hb _ (tz U U);have u3:dZ (rd b 3):=hb _ (tz U U);rw[ah h4,ag (show 0<=(0:Int)/\(0:Int)<(b.length:Int) by omega),ag (show 0<=(1:Int)/\(1:Int)<(b.length:Int) by omega),ag (show 0<=(2:Int)/\(2:Int)<(b.length:Int) by omega),ag (show 0<=(3:Int)/\(3:Int)<(b.length:Int) by omega),vr u0 u1,vr u2 u3,An,aD]
 generalize hw:rd b 0+256*rd b 1=w;generalize hh:rd b 2+256*rd b 3=h
 by_cases hm:gS w h
 ·have hp:=rW hm;have hc:=oE w h;rw[decide_eq_true hm,ah aX,ag (show 0<=(4:Int)/\(4:Int)<=(b.length:Int)/\(b.length:Int)<=(b.length:Int) by omega),bg (x:=w*h) U U,ag (show 0<=w*h/\w*h<=1099511627776 by omega)]
  have e:Ba.f w h=some (dB w h):=by
   unfold Ba.f;rw[Ed,aD];have e:(bq w h).1*(bq w h).2=dB w h:=rfl;rw[e,wi U U]
  rw[e,aD];have sl:=uT (L:=b) (lo:=4) (hi:=(b.length:Int)) U U U;refine(ai4 hm hw hh u0 u1 u2 u3 (dB w h).toNat fuel 0 (aB b 4 (b.length:Int)) (cy (w*h).toNat 0) U U (by rw[cI];omega) (Jm hb) U bf (λc _ _ ⟨s,s0,s1,_⟩=>by omega)).bind λres PB=>?_
  rcases PB with⟨e',c,rfl,h1,h2⟩ |⟨x',rfl,xl,xb⟩
  ·exact Ok.eq h1 (Ok.pos J (Ok.pure (.inl h2)))
  ·refine Ok.eq R0 (Ok.neg aX (Ok.pure (.inr ⟨J,⟨hm,xl,λq=>?_⟩,xb,J,J⟩)));obtain⟨c,c0,c1,e⟩:=ka q;have:=xb c c0 (by simp only at c1;omega)
   simp only at e;rw[e] at this;omega
 ·rw[decide_eq_false hm,ag aX];exact Ok.eq J (Ok.eq (R4 3) (Ok.pos J (Ok.pure (.inl (.inr J)))))
theorem QG (w h:Int) {c:List Int} (hc: ∀y∈c,dZ y): ∃m,lS.f w h c=some m/\sL m/\m.W<=40/\m.H<=40:=by
 obtain⟨m,e,ok,MK,KS,hb⟩:=ahg w h (c:=c) (λy hy=>by have:=hc y hy;unfold dZ at this;omega)
 exact⟨m,e,⟨ok,hb⟩,MK,KS⟩
end
section
structure qB (o:cR):Prop where
 k:0<=o.Kind/\o.Kind<=8
 a:0<=o.A/\o.A<=1000000
 b:0<=o.B/\o.B<=1000000
 m:o.Kind≠1->o.Map=[]
 b2:o.Kind=2->o.B<=255
 b5:o.Kind=5->o.B=0
 z:o.Kind=1∨o.Kind=7∨o.Kind=8->o.A=0/\o.B=0
 ld:o.Kind=1->(∀y∈o.Map,dZ y)/\4<=o.Map.length/\o.Map.length<=100000/\rd o.Map 0+256*rd o.Map 1<=40/\rd o.Map 2+256*rd o.Map 3<=40
theorem TC {n:Int} (h0:0<=n) (h1:n<=1000000):tr.f n 4=some true:=by
 unfold tr.f;have e:af (1*(2^(min (ax (af (8*4))) (IntKind.bits .i64))))=4294967296:=by decide
 rw[e,ag h0,ag (by decide),decide_eq_true U]
theorem adf {n:Int} (h0:0<=n) (h1:n<=255):tr.f n 1=some true:=by
 unfold tr.f;have e:af (1*(2^(min (ax (af (8*1))) (IntKind.bits .i64))))=256:=by decide
 rw[e,ag h0,ag (by decide),decide_eq_true U]
theorem Kw:tr.f 0 0=some true:=by decide
theorem Qn {o:cR} (h:qB o) (hk:o.Kind≠0):DQ.f o=some true:=by
 have hm:=h.m;have tk:=h.ld;have hz:=h.z;have h2:=h.b2;have h5:=h.b5;have ha:=TC h.a.1 h.a.2;have hb:=TC h.b.1 h.b.2;unfold DQ.f;rw[ah (by simpa using hk)]
 have hc:o.Kind=1∨o.Kind=2∨o.Kind=3∨o.Kind=4∨o.Kind=5∨o.Kind=6∨o.Kind=7∨o.Kind=8:=by have:=h.k;omega
 rcases hc with e |e |e |e |e |e |e |e
 ·have:=hz (.inl e);have hl:=tk e;simp only[e,this.1,this.2,qk.f,beq_self_eq_true,if_true,aD,Kw]
  by_cases q:(o.Map.length:Int)=0
  ·omega
  ·rw[ah (by simpa using q)];simp;omega
 ·have Fb:=adf h.b.1 (h2 e);simp[e,qk.f,ha,Fb,hm U]
 ·simp[e,qk.f,ha,hb,hm U]
 ·simp[e,qk.f,ha,hb,hm U]
 ·simp[e,qk.f,ha,h5 e,Kw,hm U]
 ·simp[e,qk.f,ha,hb,hm U]
 ·have:=hz (.inr (.inl e));simp[e,qk.f,this.1,this.2,Kw,hm U]
 ·have:=hz (.inr (.inr e));simp[e,qk.f,this.1,this.2,Kw,hm U]
theorem vQ {n lo hi:Int} (h0:0<=lo) (h1:lo<=hi) (h2:hi<=1000000): ∃r,fo.f n lo hi=some r/\lo<=r/\r<=hi:=
 ⟨_,Rm U U h1 U,Rn h1⟩
theorem Ro (x:Int):0<=bP x/\bP x<=255:=akT x
theorem aj9 (x:p9) {n:Int} (n1:1<=n) (n2:n<=1600):Ok (yR.f x n) qB:=by
 obtain⟨a,ea,a0,a1⟩:=vQ (n:=x.B) (lo:=1) (hi:=6) U U U;obtain⟨b,eb,b0,b1⟩:=vQ (n:=x.A) (lo:=0) (hi:=5) U U U;obtain⟨c,ec,c0,c1⟩:=vQ (n:=x.A) (lo:=0) (hi:=9) U U U;obtain⟨d,ed,d0,d1⟩:=vQ (n:=x.A) (lo:=0) (hi:=n-1) U U U;obtain⟨e,ee,e0,e1⟩:=vQ (n:=x.A) (lo:=0) (hi:=1) U U U;unfold yR.f;rw[ea,eb,ec,wi (x:=n-1) U U,ed,ee];simp only[aD];rw[wi (x:=n+b) U U,wi (x:=e*255) U U];have w1:=Ro x.A;have w2:=Ro x.B;refine Ok.ite (λq=>Ok.pure ?_) λq=>Ok.ite (λq'=>Ok.pure ?_) λq'=>Ok.ite (λDX=>Ok.pure ?_) λDX=>Ok.pure ?_
 ·have q:a=1:=by simpa using q
  subst q;refine⟨by simp,by simp,by simp,λz=>by simp at z,λz=>by simp at z,λz=>by simp at z,λ_=>⟨J,J⟩,λ_=>⟨λy hy=>?_,by simp,by simp,by simp[rd],by simp[rd]⟩⟩
  unfold dZ;simp only[nK,tZ,or_false] at hy;rcases hy with rfl |rfl |rfl |rfl |rfl |rfl |rfl<;>omega
 ·have q':a=2:=by simpa using q'
  subst q';exact⟨by simp,by simp only;omega,by simp only;omega,λ_=>rfl,λ_=>by simp only;omega,λz=>by simp at z,λz=>by simp at z,λz=>by simp at z⟩
 ·have DX:a=5:=by simpa using DX
  subst DX;exact⟨by simp,by simp only;omega,by simp,λ_=>rfl,λz=>by simp at z,λ_=>rfl,λz=>by simp at z,λz=>by simp at z⟩
 ·have q:a≠1:=by simpa using q
  have q':a≠2:=by simpa using q'
  have DX:a≠5:=by simpa using DX
  exact⟨by simp only;omega,by simp only;omega,by simp only;omega,λ_=>rfl,λz=>absurd z q',λz=>absurd z DX,λz=>by simp only at z;omega,λz=>absurd z q⟩
theorem LQ {m:aJ} (hm:sL m) (h1:m.W<=40) (h2:m.H<=40):qB ⟨1,0,0,bytesOf m⟩:=by
 have HQ:=hm.ok.1;have hl:=NC hm;have hc:=oE m.W m.H;have e: ∀j:Int,0<=j->j<4->rd (bytesOf m) j=rd (yn m) j:=λj j0 j1=>by unfold bytesOf;exact vG j0 (by simp[yn];omega)
 have hw:=Lb (w:=m.W) U U;have hh:=Lb (w:=m.H) U U;refine⟨by simp,by simp,by simp,λz=>by simp at z,λz=>by simp at z,λz=>by simp at z,λ_=>⟨J,J⟩,λ_=>⟨SC hm,by simp only;omega,?_,?_,?_⟩⟩
 ·have:dB m.W m.H<=3*3:=by
   unfold dB bq;rw[ag hm.ok.1];exact kc (by simp only;omega) (by simp only;omega) (by simp only;omega) (by simp only;omega)
  simp only;omega
 ·simp only;rw[e 0 U U,e 1 U U]
  show bP m.W+256*bP (fS m.W (2^8))<=40
  omega
 ·simp only;rw[e 2 U U,e 3 U U]
  show bP m.H+256*bP (fS m.H (2^8))<=40
  omega
theorem WX {m:aJ} (hm:sL m) (h1:m.W<=40) (h2:m.H<=40):1<=m.C.length/\m.C.length<=1600:=by
 have hp:=rW hm.ok.1;have:=hm.ok.2.1;have HQ:=hm.ok.1;have:m.W*m.H<=40*40:=kc U U h1 h2;omega
theorem ajH (w h:Int) {c:List Int} (hc: ∀y∈c,dZ y) (l:List p9): ∀(n k:Nat) (a b:Int) (C:List Int) (x:List cR) (N i:Int),(60-i).toNat<=n->n<k->0<=i->1<=N->N<=1600->(x.length:Int)<=1+i->i<=60->(∀o∈x,qB o)->x≠[]->
 Ok (lv.l0 k w h c l a b C x N i) (λr=>r≠[]/\r.length<=61/\ ∀o∈r,qB o):=by
 have fin: ∀(k:Nat) (a b:Int) (C:List Int) (x:List cR) (N i:Int),¬(i<l.length/\i<60)->(x.length:Int)<=1+i->i<=60->(∀o∈x,qB o)->x≠[]->Ok (lv.l0 (k+1) w h c l a b C x N i) (λr=>r≠[]/\r.length<=61/\ ∀o∈r,qB o):=λk a b C x N i hi hx dK ha bD=>by
  rw[lv.l0,ah (by simpa using hi)]
  exact Ok.pure ⟨bD,by omega,ha⟩
 intro n
 induction n with
 |zero=>
  intro k a b C x N i hn hk h0 n1 n2 hx dK ha bD;obtain⟨k,rfl⟩:=bl hk;exact fin k a b C x N i U hx dK ha bD
 |succ n ih=>
  intro k a b C x N i hn hk h0 n1 n2 hx dK ha bD;obtain⟨k,rfl⟩:=bl hk
  by_cases aS:i<l.length/\i<60
  ·rw[lv.l0,ag (by simpa using aS),ag ⟨h0,aS.1⟩,wi (x:=N-1) U U,wi (x:=i+1) U U]
   obtain⟨p,ep,p0,p1⟩:=vQ (n:=(rd l i).A) (lo:=0) (hi:=N-1) U U U;obtain⟨q,eq,q0,q1⟩:=vQ (n:=(rd l i).B) (lo:=0) (hi:=N-1) U U U;obtain⟨v,ev,v0,v1⟩:=vQ (n:=(rd l i).Kind) (lo:=0) (hi:=15) U U U;obtain⟨s,es,s0,s1⟩:=vQ (n:=(rd l i).A) (lo:=0) (hi:=9) U U U;obtain⟨t,et,t0,t1⟩:=vQ (n:=(rd l i).B) (lo:=0) (hi:=200) U U U;rw[ep,eq,ev,es,et];simp only[aD];refine Ok.bind (P:=λr:Int×Int×List Int×Int×Int×Int×Int×List Int=>1<=r.2.2.2.1/\r.2.2.2.1<=1600/\qB ⟨r.2.2.2.2.1,r.2.2.2.2.2.1,r.2.2.2.2.2.2.1,r.2.2.2.2.2.2.2⟩) ?_ λr hr=>Ok.cz U (ih k _ _ _ _ _ (i+1) U U U hr.1 hr.2.1 bf U (λo ho=>?_) aX)
   ·have e3:(if(v==0)=true then(some (v==0)) else(if(v==1)=true then(some (v==1)) else(some (v==2))))=some (decide (v=0∨v=1∨v=2)):=by
     by_cases z:v=0
     ·simp[z]
     ·by_cases z':v=1<;>simp[z,z']
      rw[qC];simp
    refine Ok.eq e3 (Ok.ite (λz=>Ok.pure ⟨n1,n2,by simp,by simp only;omega,by simp only;omega,λ_=>rfl,λz=>by simp at z,λz=>by simp at z,λz=>by simp at z,λz=>by simp at z⟩) λz=>?_)
    refine Ok.ite (λz=>Ok.pure ⟨n1,n2,by simp,by simp only;omega,by simp only;omega,λ_=>rfl,λz=>by simp at z,λz=>by simp at z,λz=>by simp at z,λz=>by simp at z⟩) λz=>?_
    refine Ok.ite (λz=>Ok.pure ⟨n1,n2,by simp,by simp only;omega,by simp,λ_=>rfl,λz=>by simp at z,λ_=>rfl,λz=>by simp at z,λz=>by simp at z⟩) λz=>?_
    have e4:(if(v==5)=true then(some (v==5)) else(some (v==6)))=some (decide (v=5∨v=6)):=by
     by_cases z:v=5<;>simp[z]
     rw[qC];simp
    refine Ok.eq e4 (Ok.ite (λz=>?_) λz=>?_)
    ·have Wd:=Ro (rd l i).B;obtain⟨u,eu,u0,u1⟩:=QD Wd.1 Wd.2;refine Ok.eq eu (Ok.pure ⟨n1,n2,by simp,by simp only;omega,by simp only;rw[wi U U];omega,λ_=>rfl,λ_=>by simp only;rw[wi U U];omega,λz=>by simp at z,λz=>by simp at z,λz=>by simp at z⟩)
    have e5:(if(v==7)=true then(some (v==7)) else(some (v==8)))=some (decide (v=7∨v=8)):=by
     by_cases z:v=7<;>simp[z]
     rw[qC];simp
    refine Ok.eq e5 (Ok.ite (λz=>Ok.pure ⟨n1,n2,by simp,by simp only;omega,by simp only;omega,λ_=>rfl,λz=>by simp at z,λz=>by simp at z,λz=>by simp at z,λz=>by simp at z⟩) λz=>?_)
    refine Ok.ite (λz=>Ok.pure ⟨n1,n2,by simp,by simp,by simp,λ_=>rfl,λz=>by simp at z,λz=>by simp at z,λ_=>⟨J,J⟩,λz=>by simp at z⟩) λz=>?_
    refine Ok.ite (λz=>Ok.ite (λz=>?_) λz=>?_) λz=>Ok.ite (λz=>?_) λz=>?_
    ·obtain⟨m,em,hm,m1,m2⟩:=QG (af (w+(af (dm (rd l i).A 4)))) (af (h+(rd l i).B)) hc;have:=WX hm m1 m2;exact Ok.eq em (Ok.eq (QJ hm) (Ok.pure ⟨by simp only;omega,by simp only;omega,LQ hm m1 m2⟩))
    ·exact Ok.pure ⟨n1,n2,by simp,by simp only;rw[wi U U];omega,by simp,λ_=>rfl,λz=>by simp at z,λz=>by simp at z,λz=>by simp at z,λz=>by simp at z⟩
    ·exact(aj9 (rd l i) n1 n2).bind λo ho=>Ok.pure ⟨n1,n2,ho⟩
    ·exact Ok.pure ⟨n1,n2,by simp,by simp,by simp,λ_=>rfl,λz=>by simp at z,λz=>by simp at z,λ_=>⟨J,J⟩,λz=>by simp at z⟩
   ·rcases List.mem_append.1 ho with z |z
    ·exact ha o z
    ·simp only[nK,tZ,or_false] at z;rw[z];exact hr.2.2
  ·exact fin k a b C x N i aS hx dK ha bD
theorem ajG (w h:Int) {c:List Int} (hc: ∀y∈c,dZ y) (l:List p9):Ok (lv.f w h c l) (λr=>r≠[]/\r.length<=61/\ ∀o∈r,qB o):=by
 unfold lv.f;obtain⟨m,em,hm,m1,m2⟩:=QG w h hc;have:=WX hm m1 m2;refine Ok.eq em (Ok.eq (QJ hm) (ajH w h hc l 60 fuel _ _ _ _ _ 0 U (by rw[cI];omega) U U U aX U (λo ho=>?_) aX))
 simp only[nK,tZ,or_false] at ho;rw[ho];exact LQ hm m1 m2
end
theorem YS (A B:List Int):aB (A++B) (A.length:Int) ((A++B).length:Int)=B:=by
 unfold aB;simp;exact Cx U
theorem ai5 {m:aJ} (hm:sL m) {b:List Int} (hw:rd b 0+256*rd b 1=m.W) (hh:rd b 2+256*rd b 3=m.H) (u0:dZ (rd b 0)) (u1:dZ (rd b 1)) (u2:dZ (rd b 2)) (u3:dZ (rd b 3)):
 ∀(n k:Nat) (i:Int) (x:List Int),i+n=dB m.W m.H->0<=i->n<k->(outs m n i).length<=100000->(x.length:Int)=m.W*m.H->
 (∀c,0<=c->c<m.W*m.H->(∃s,0<=s/\s<i/\bE m.W m.H s/\pD m.W m.H s c)->rd x c=rd m.C c)->
 na.l0 k b (dB m.W m.H) (outs m n i) x i=some (m,.nil):=by
 have jD:=oE m.W m.H;intro n
 induction n with
 |zero=>
  intro k i x hi i0 hk hr hx bZ;obtain⟨k,rfl⟩:=bl hk;rw[na.l0,vr u0 u1,vr u2 u3,hw,hh,ah U,ah (by simp[outs])]
  have:x=m.C:=by
   have h2:=hm.ok.2.1;refine xe U (λc c0 c1=>?_);obtain⟨s,s1,s2⟩:=Yy (w:=m.W) (h:=m.H) (c:=c) ⟨hm.ok.1,c0,by omega⟩
   exact bZ c c0 U ⟨s,s1.1,by have:=s1.2;omega,s1,s2⟩
  rw[this]
 |succ n ih=>
  intro k i x hi i0 hk hr hx bZ;obtain⟨k,rfl⟩:=bl hk;have hs:bE m.W m.H i:=⟨i0,by omega⟩
  obtain⟨L,f,e,hL⟩:=Qo hm hs;obtain⟨t1,t2⟩:=Mn hm hs;have eo:outs m (n+1) i=vB m i++outs m n (i+1):=rfl;rw[eo] at hr⊢;have hlen:(vB m i++outs m n (i+1)).length=(vB m i).length+(outs m n (i+1)).length:=by simp
  rw[na.l0,vr u0 u1,vr u2 u3,hw,hh,ag U,F0,aD];have eg:=adB t1 t2 e hL (b:=vB m i++outs m n (i+1)) hr (λj j0 j1 j2=>vG j0 j1);have eg':ql.f (vB m i++outs m n (i+1)) (az m.W m.H i).1 (az m.W m.H i).2=_:=eg;rw[eg',ag (show(vB m i).length<=(vB m i++outs m n (i+1)).length by omega),aD]
  simp only;obtain⟨x',f1,f2,f3⟩:=WL hs (t:=di m i) J J t1.2.2.2.2.1 (x:=x) hx;rw[ah aX,f1,aD,ag U,wi (x:=i+1) U U,YS];refine ih k (i+1) x' U U U U f2 λc c0 c1 jr=>?_
  rw[f3 c c0 c1]
  by_cases dK:pD m.W m.H i c
  ·rw[ag dK];have Pn:=P4 hs dK;have hn3:=QW hs
   show rd (j4 m i (FU m.W m.H i)) _=_
   rw[Jo Pn.1 U,adE hs dK]
  ·rw[ah dK];obtain⟨s,s0,s1,s2,s3⟩:=jr;have:s≠i:=λq=>dK (q▸s3);exact bZ c c0 c1 ⟨s,s0,by omega,s2,s3⟩
theorem adC {m:aJ} (hm:sL m) (alu:(bytesOf m).length<=100000):vb.f (bytesOf m)=some (m,0):=by
 have hlen:=NC hm;have hc:=oE m.W m.H;have VZ:(bytesOf m).length=4+(outs m (dB m.W m.H).toNat 0).length:=by
  unfold bytesOf;rw[tX];rfl
 have hh: ∀j:Int,0<=j->j<4->rd (bytesOf m) j=rd (yn m) j:=λj j0 j1=>by
  unfold bytesOf;rw[vG j0 (by show j<4;exact j1)]
 have v0:rd (bytesOf m) 0=bP m.W:=hh 0 U U;have v1:rd (bytesOf m) 1=bP (fS m.W (2^8)):=hh 1 U U;have v2:rd (bytesOf m) 2=bP m.H:=hh 2 U U;have v3:rd (bytesOf m) 3=bP (fS m.H (2^8)):=hh 3 U U;have hb8:=SC hm;have u: ∀j:Int,0<=j->j<4->dZ (rd (bytesOf m) j):=λj j0 j1=>hb8 _ (dR j0 U);obtain⟨w1,w2,h1,h2⟩:=hm.ok.1;have ew:rd (bytesOf m) 0+256*rd (bytesOf m) 1=m.W:=by rw[v0,v1];exact Lb U U
 have eh:rd (bytesOf m) 2+256*rd (bytesOf m) 3=m.H:=by rw[v2,v3];exact Lb U U
 have hp:=rW hm.ok.1;have u0:=u 0 U U;have u1:=u 1 U U;have u2:=u 2 U U;have u3:=u 3 U U;unfold vb.f na.f;rw[ah U,ag (show 0<=(0:Int)/\(0:Int)<((bytesOf m).length:Int) by omega),ag (show 0<=(1:Int)/\(1:Int)<((bytesOf m).length:Int) by omega),ag (show 0<=(2:Int)/\(2:Int)<((bytesOf m).length:Int) by omega),ag (show 0<=(3:Int)/\(3:Int)<((bytesOf m).length:Int) by omega),vr u0 u1,vr u2 u3,ew,eh,An,decide_eq_true hm.ok.1,aD,ah aX,ag U,wi (x:=m.W*m.H) U U,ag U]
 unfold Ba.f;rw[Ed];simp only[aD];have e:af ((bq m.W m.H).1*(bq m.W m.H).2)=dB m.W m.H:=by
  show af (dB m.W m.H)=_
  exact wi U U
 rw[e];have es:aB (bytesOf m) 4 ((bytesOf m).length:Int)=outs m (dB m.W m.H).toNat 0:=YS (yn m) _;rw[es,ai5 hm ew eh u0 u1 u2 u3 (dB m.W m.H).toNat fuel 0 (cy (m.W*m.H).toNat 0) U U (by rw[cI];omega) U bf (λc _ _ jr=>by obtain⟨s,s0,s1,_⟩:=jr;omega),aD,R0];rfl
def hd (l:List Int) (q:Int):Int:=match l with |[]=>q |c::_=>c
def jF (l:List Int) (p:Int):Int:=match l with |[]=>p |c::r=>jF r c
def qE (s:List bw) (p:Int) (l:List Int) (q:Int):Prop:=match l with
 |[]=>True
 |c::r=>(rd s c).cX=p/\(rd s c).aZ=hd r q/\qE s c r q
theorem Q1 {s:List bw}: ∀(A:List Int) (p:Int) (B:List Int) (q:Int),qE s p (A++B) q↔qE s p A (hd B q)/\qE s (jF A p) B q
 |[],p,B,q=>by simp[qE,jF]
 |c::r,p,B,q=>by
  have e:hd (r++B) q=hd r (hd B q):=by cases r<;>rfl
  simp only[List.cons_append,qE,jF,Q1 r c B q,e];exact⟨λ⟨a,b,c,d⟩=>⟨⟨a,b,c⟩,d⟩,λ⟨⟨a,b,c⟩,d⟩=>⟨a,b,c,d⟩⟩
theorem FX {s s':List bw}: ∀(A:List Int) (p q:Int),(∀c∈A,(rd s' c).cX=(rd s c).cX/\(rd s' c).aZ=(rd s c).aZ)->qE s p A q->qE s' p A q
 |[],_,_,_,_=>trivial
 |c::r,p,q,h,hs=>by
  have:=h c (jj ..);exact⟨this.1.trans hs.1,this.2.trans hs.2.1,FX r c q (λd hd=>h d (j6 _ hd)) hs.2.2⟩
theorem Iu: ∀(A:List Int) (p:Int),A≠[]->jF A p∈A
 |[],_,h=>absurd J h
 |[c],_,_=>jj ..
 |c::d::r,p,_=>j6 _ (Iu (d::r) c aX)
theorem P7: ∀(A:List Int) (p:Int) (B:List Int),jF (A++B) p=jF B (jF A p)
 |[],_,_=>rfl
 |c::r,p,B=>by simp only[List.cons_append,jF];exact P7 r c B
theorem YB {s s':List bw}: ∀(A:List Int) (p q q':Int),A≠[]->A.Nodup->(∀c∈A,(rd s' c).cX=(rd s c).cX/\(c≠jF A p->(rd s' c).aZ=(rd s c).aZ))->(rd s' (jF A p)).aZ=q'->qE s p A q->qE s' p A q'
 |[],_,_,_,h,_,_,_,_=>absurd J h
 |[c],p,q,q',_,_,h,e,hs=>⟨(h c (jj ..)).1.trans hs.1,e,trivial⟩
 |c::d::r,p,q,q',_,hn,h,e,hs=>by
  have jD:c≠jF (d::r) c:=λz=>(List.nodup_cons.1 hn).1 (z▸Iu (d::r) c aX);have:=h c (jj ..);exact⟨this.1.trans hs.1,(this.2 jD).trans hs.2.1,YB (d::r) c q q' aX (List.nodup_cons.1 hn).2 (λx hx=>h x (j6 _ hx)) e hs.2.2⟩
theorem YA {s s':List bw}: ∀(A:List Int) (p p' q:Int),(∀c∈A,(rd s' c).aZ=(rd s c).aZ/\(c≠hd A q->(rd s' c).cX=(rd s c).cX))->A.Nodup->(A≠[]->(rd s' (hd A q)).cX=p')->qE s p A q->qE s' p' A q
 |[],_,_,_,_,_,_,_=>trivial
 |c::r,p,p',q,h,hn,e,hs=>by
  refine⟨e aX,(h c (jj ..)).1.trans hs.2.1,FX r c q (λd gO=>?_) hs.2.2⟩;have:=h d (j6 _ gO);exact⟨this.2 λz=>(List.nodup_cons.1 hn).1 (by have z:d=c:=z;rw[<-z];exact gO),this.1⟩
structure sK (l:gu) (k:Int) (ord:List Int):Prop where
 k_:l.k=k
 kb:1<=k/\k<=1000000
 kG:l.aw.length<=k
 nd:ord.Nodup
 mem: ∀c,c∈ord↔0<=c/\c<l.aw.length
 yW:qE l.aw (-1) ord (-1)
 nw:l.cO=hd ord (-1)
 ol:l.dz=jF ord (-1)
 sn:(l.fB.map (·.1)).Nodup
 sl: ∀key c,cN l.fB key=some c↔0<=c/\c<l.aw.length/\(rd l.aw c).key=key
structure A7 (l:gu) (ord:List Int):Prop where
 nd:ord.Nodup
 mem: ∀c∈ord,0<=c/\c<l.aw.length
 yW:qE l.aw (-1) ord (-1)
 nw:l.cO=hd ord (-1)
 ol:l.dz=jF ord (-1)
theorem ahd {k:Int} (h1:1<=k) (h2:k<=1000000): ∃l,yD.f k=some (some l)/\sK l k []:=by
 unfold yD.f Al.f;rw[ah U];exact⟨_,J,J,⟨h1,h2⟩,by simp;omega,List.nodup_nil,λc=>by simp,trivial,J,J,List.nodup_nil,λkey c=>by simp[cN];omega⟩
theorem aci {l:gu} {k:Int} {ord:List Int} (h:sK l k ord): ∃l',Am.f l=some l'/\sK l' k []:=
 ⟨_,J,h.k_,h.kb,by have:=h.kb;simp;omega,List.nodup_nil,λc=>by simp,trivial,J,J,List.nodup_nil,λkey c=>by simp[cN];omega⟩
theorem Qh {A B:List Int} {c:Int} (h:(A++c::B).Nodup):c∉A/\c∉B/\(A++B).Nodup:=by
 rw[List.nodup_append] at h⊢;obtain⟨h1,h2,h3⟩:=h;obtain⟨h4,h5⟩:=List.nodup_cons.1 h2;exact⟨λz=>h3 c z c (jj ..) J,h4,h1,h5,λa ha b hb=>h3 a ha b (j6 _ hb)⟩
theorem Za {l:gu} {A B:List Int} {c:Int} (h:A7 l (A++c::B)): ∃l',ur.f l c=some l'/\l'.k=l.k/\l'.fB=l.fB/\l'.aw.length=l.aw.length/\(∀d:Int,0<=d->(rd l'.aw d).key=(rd l.aw d).key)/\A7 l' (A++B):=by
 obtain⟨n1,n2,n3⟩:=Qh h.nd;have hc:=h.mem c aX;obtain⟨g1,g2,g3,g4⟩:=(Q1 A (-1) (c::B) (-1)).1 h.yW;simp only[hd] at g1;obtain⟨nA,nB,W5⟩:=List.nodup_append.1 n3;have hA:A≠[]->0<=jF A (-1)/\jF A (-1)<l.aw.length:=λz=>h.mem _ (wc _ (Iu A _ z));have hB:B≠[]->0<=hd B (-1)/\hd B (-1)<l.aw.length/\hd B (-1)∈B:=λz=>by
  cases B with
  |nil=>exact absurd J z
  |cons d r=>have:=h.mem d aX;exact⟨this.1,this.2,jj ..⟩
 unfold ur.f;rw[ag hc];have s1: ∃S N,(if((rd l.aw c).cX==(-1))=true then(some (l.aw,(rd l.aw c).aZ)) else(if(0<=(rd l.aw c).cX/\(rd l.aw c).cX<(aa l.aw:Int)) then(some ((aG l.aw (ax ((rd l.aw c).cX)) (bw.mk ((rd l.aw ((rd l.aw c).cX)).key) ((rd l.aw ((rd l.aw c).cX)).cX) ((rd l.aw c).aZ))),l.cO)) else none))=some (S,N)/\S.length=l.aw.length/\(∀d:Int,0<=d->(rd S d).key=(rd l.aw d).key/\(d∉A->rd S d=rd l.aw d))/\qE S (-1) A (hd B (-1))/\N=hd (A++B) (-1):=by
  rw[g2,g3]
  by_cases z:A=[]
  ·subst z;rw[ag (by simp[jF])]
   exact⟨_,_,J,J,λd _=>⟨J,λ_=>rfl⟩,trivial,J⟩
  ·have ha:=hA z;have eD: ∀d:Int,0<=d->rd (aG l.aw (jF A (-1)).toNat (bw.mk (rd l.aw (jF A (-1))).key (rd l.aw (jF A (-1))).cX (hd B (-1)))) d=if d=jF A (-1) then bw.mk (rd l.aw (jF A (-1))).key (rd l.aw (jF A (-1))).cX (hd B (-1)) else rd l.aw d:=λd d0=>lR ha.1 ha.2 d0
   rw[ah bf,ag ha];refine⟨_,_,J,by simp,λd d0=>?_,YB A (-1) c _ z nA (λd gO=>?_) ?_ g1,?_⟩
   ·rw[eD d d0];refine⟨?_,λgO=>?_⟩
    ·split
     ·rename_i q;rw[q]
     ·rfl
    ·rw[ah];rintro rfl;exact gO (Iu A _ z)
   ·have:=h.mem d (wc _ gO);rw[eD d this.1];refine⟨?_,λq=>by rw[ah q]⟩
    split
    ·rename_i q;rw[q]
    ·rfl
   ·rw[eD _ ha.1,ag J]
   ·rw[h.nw];cases A with
    |nil=>exact absurd J z
    |cons a A=>rfl
 obtain⟨S,N,e,zT,E7,Up,hN⟩:=s1;rw[e];simp only[aD];have hSB:qE S c B (-1):=FX B c (-1) (λd gO=>by
  have:=h.mem d (EF _ (j6 _ gO));rw[(E7 d this.1).2 λq=>W5 d q d gO J];exact⟨J,J⟩) g4
 rw[g2,g3]
 by_cases z:B=[]
 ·subst z;rw[ag (by simp[hd])]
  refine⟨_,J,J,J,zT,λd d0=>(E7 d d0).1,n3,λd gO=>?_,?_,hN,?_⟩
  ·rw[zT];exact h.mem d (by simp at gO;simp[gO])
  ·rw[oq];exact Up
  ·rw[oq]
 ·have hb:=hB z;have eD: ∀d:Int,0<=d->rd (aG S (hd B (-1)).toNat (bw.mk (rd S (hd B (-1))).key (jF A (-1)) (rd S (hd B (-1))).aZ)) d=if d=hd B (-1) then bw.mk (rd S (hd B (-1))).key (jF A (-1)) (rd S (hd B (-1))).aZ else rd S d:=λd d0=>lR hb.1 (by rw[zT];exact hb.2.1) d0
  rw[ah bf,ag (by rw[zT];exact⟨hb.1,hb.2.1⟩)]
  refine⟨_,J,J,J,by simpa using zT,λd d0=>?_,n3,λd gO=>?_,?_,hN,?_⟩
  ·rw[<-(E7 d d0).1];simp only;rw[eD d d0];split
   ·rename_i q;rw[q]
   ·rfl
  ·simp only[mo];rw[zT];refine h.mem d ?_;rcases List.mem_append.1 gO with q |q
   ·exact wc _ q
   ·exact EF _ (j6 _ q)
  ·refine(Q1 A (-1) B (-1)).2 ⟨FX A (-1) _ (λd gO=>?_) Up,YA B c (jF A (-1)) (-1) (λd gO=>?_) nB (λ_=>?_) hSB⟩
   ·have:=h.mem d (wc _ gO);rw[eD d this.1,ah (λq=>W5 d gO (hd B (-1)) hb.2.2 q)];exact⟨J,J⟩
   ·have:=h.mem d (EF _ (j6 _ gO));rw[eD d this.1];refine⟨?_,λq=>by rw[ah q]⟩
    split
    ·rename_i q;rw[q]
    ·rfl
   ·rw[eD _ hb.1,ag J]
  ·simp only;rw[h.ol,P7,P7]
   cases B with
   |nil=>exact absurd J z
   |cons d r=>rfl
theorem P2 {l:gu} {ord:List Int} {c:Int} (h:A7 l ord) (h0:0<=c) (h1:c<l.aw.length) (hc:c∉ord): ∃l',yC.f l c=some l'/\l'.k=l.k/\l'.fB=l.fB/\l'.aw.length=l.aw.length/\(∀d:Int,0<=d->(rd l'.aw d).key=(rd l.aw d).key)/\A7 l' (c::ord):=by
 unfold yC.f;generalize zT:aG l.aw (ax c) (bw.mk ((rd l.aw c).key) (-1) ((rd l.aw c).aZ))=S1;have vu:S1.length=l.aw.length:=by rw[<-zT];simp
 have r1: ∀d:Int,0<=d->rd S1 d=if d=c then bw.mk ((rd l.aw c).key) (-1) ((rd l.aw c).aZ) else rd l.aw d:=λd d0=>by rw[<-zT];exact lR h0 h1 d0
 generalize E7:aG S1 (ax c) (bw.mk ((rd S1 c).key) ((rd S1 c).cX) l.cO)=S2;have rP:S2.length=l.aw.length:=by rw[<-E7];simpa using vu
 have r2: ∀d:Int,0<=d->rd S2 d=if d=c then bw.mk ((rd l.aw c).key) (-1) l.cO else rd l.aw d:=λd d0=>by
  rw[<-E7,lR h0 U d0,r1 c h0,ag J];split
  ·rfl
  ·rename_i q;rw[r1 d d0,ah q]
 rw[ag ⟨h0,h1⟩,ag ⟨h0,by omega⟩]
 have Bs: ∀d:Int,0<=d->(rd S2 d).key=(rd l.aw d).key:=λd d0=>by
  rw[r2 d d0];split
  ·rename_i q;rw[q]
  ·rfl
 have rQ:(c::ord).Nodup:=List.nodup_cons.2 ⟨hc,h.nd⟩
 by_cases z:ord=[]
 ·subst z;have hn:l.cO= -1:=h.nw;rw[ag (by simp[hn])]
  refine⟨_,J,J,J,rP,Bs,rQ,λd gO=>?_,⟨?_,?_,trivial⟩,J,J⟩
  ·simp only[nK,tZ,or_false] at gO;subst gO;simp only;omega
  ·simp only;rw[r2 c h0,ag J]
  ·simp only;rw[r2 c h0,ag J,hn];rfl
 ·obtain⟨a,r,e⟩:=List.exists_cons_of_ne_nil z;have hn:l.cO=a:=by rw[h.nw,e];rfl
  have ha:=h.mem a (by rw[e];exact jj ..)
  have OB:a≠c:=λq=>hc (by rw[e,<-q];exact jj ..)
  rw[hn] at r2⊢;rw[ah bf,ag (by rw[rP];exact ha)]
  have r3: ∀d:Int,0<=d->rd (aG S2 a.toNat (bw.mk (rd S2 a).key c (rd S2 a).aZ)) d=if d=a then bw.mk (rd S2 a).key c (rd S2 a).aZ else rd S2 d:=λd d0=>lR ha.1 (by rw[rP];exact ha.2) d0
  refine⟨_,J,J,J,by simpa using rP,λd d0=>?_,rQ,λd gO=>?_,⟨?_,?_,?_⟩,J,?_⟩
  ·rw[<-Bs d d0];simp only;rw[r3 d d0];split
   ·rename_i q;rw[q]
   ·rfl
  ·simp only[mo];rw[rP];rcases List.mem_cons.1 gO with rfl |q
   ·exact⟨h0,h1⟩
   ·exact h.mem d q
  ·simp only;rw[r3 c h0,ah OB.symm,r2 c h0,ag J]
  ·simp only;rw[r3 c h0,ah OB.symm,r2 c h0,ag J,e];rfl
  ·refine YA ord (-1) c (-1) (λd gO=>?_) h.nd (λ_=>?_) h.yW
   ·have:=h.mem d gO;have La:d≠c:=λq=>hc (q▸gO);rw[r3 d this.1];refine⟨?_,λq=>?_⟩
    ·split
     ·rename_i q;rw[q,r2 a ha.1,ah OB]
     ·rw[r2 d this.1,ah La]
    ·rw[e] at q;simp only[hd] at q;rw[ah q,r2 d this.1,ah La]
   ·rw[e];simp only[hd];rw[r3 a ha.1,ag J]
  ·simp only;rw[h.ol,e];rfl
theorem sK.WV {l:gu} {k:Int} {ord:List Int} (h:sK l k ord):A7 l ord:=⟨h.nd,λc hc=>(h.mem c).1 hc,h.yW,h.nw,h.ol⟩
theorem akR {l:gu} {k:Int} {ord:List Int} (h:sK l k ord) (a b:Int):Ok (yB.f l a b) (λr=> ∃A B,sK r.2.2.2 k (r.1::(A++B))/\
 ((r.2.1=true/\r.2.2.1=false/\cN l.fB (a,b)=some r.1/\ord=A++r.1::B/\r.2.2.2.aw.length=l.aw.length/\ ∀d:Int,0<=d->(rd r.2.2.2.aw d).key=(rd l.aw d).key)∨
  (r.2.1=false/\r.2.2.1=false/\cN l.fB (a,b)=none/\ord=A++B/\r.1=l.aw.length/\r.2.2.2.aw.length=l.aw.length+1/\(∀d:Int,0<=d->d<l.aw.length->(rd r.2.2.2.aw d).key=(rd l.aw d).key)/\(rd r.2.2.2.aw r.1).key=(a,b))∨
  (r.2.1=false/\r.2.2.1=true/\cN l.fB (a,b)=none/\ord=A++r.1::B/\B=[]/\(l.aw.length:Int)=k/\r.2.2.2.aw.length=l.aw.length/\(∀d:Int,0<=d->d≠r.1->(rd r.2.2.2.aw d).key=(rd l.aw d).key)/\(rd r.2.2.2.aw r.1).key=(a,b)))):=by
 have Lg:=h.kb;have Ff:=h.kG;unfold yB.f
 cases hg:cN l.fB (a,b) with
 |some c=>
  have hm:bt l.fB (a,b)=true:=by unfold bt;rw[hg];rfl
  have hv:aP l.fB (a,b)=c:=by unfold aP;rw[hg];rfl
  obtain⟨c0,c1,c2⟩:=(h.sl (a,b) c).1 hg;obtain⟨A,B,KU⟩:=List.append_of_mem ((h.mem c).2 ⟨c0,c1⟩);obtain⟨l1,e1,k1,Je,n1,LN,vy⟩:=Za (A:=A) (B:=B) (c:=c) (KU▸h.WV);rw[hm,hv,ag J,e1];simp only[aD];have rQ:=h.nd;rw[KU] at rQ;obtain⟨nA,nB,_⟩:=Qh rQ;have Ip:A7 ⟨l1.k,l1.aw,cF l1.fB (a,b) c,l1.cO,l1.dz⟩ (A++B):=⟨vy.nd,vy.mem,vy.yW,vy.nw,vy.ol⟩;obtain⟨l2,e2,k2,xw,n2,qe,tn⟩:=P2 (c:=c) Ip c0 (by simp only;omega) (by simp[nA,nB])
  rw[e2];simp only at k2 xw n2 qe;have kI: ∀d:Int,0<=d->(rd l2.aw d).key=(rd l.aw d).key:=λd d0=>(qe d d0).trans (LN d d0);refine Ok.pure ⟨A,B,⟨by simp only;rw[k2,k1];exact h.k_,Lg,by simp only;omega,tn.nd,λd=>?_,tn.yW,tn.nw,tn.ol,?_,λkey d=>?_⟩,.inl ⟨J,J,J,KU,by simp only;omega,kI⟩⟩
  ·have:=h.mem d;rw[KU] at this;simp only[n2,n1,nK,List.mem_append] at this⊢;rw[<-this];constructor
   ·rintro(q |q |q)
    ·exact .inr (.inl q)
    ·exact .inl q
    ·exact .inr (.inr q)
   ·rintro(q |q |q)
    ·exact .inr (.inl q)
    ·exact .inl q
    ·exact .inr (.inr q)
  ·simp only;rw[xw,Je];exact DG h.sn _ _
  ·simp only;rw[xw,Je,BG,n2,n1]
   by_cases q:(a,b)=key
   ·rw[ag q,<-q];constructor
    ·intro w;simp only[Option.some.injEq] at w;subst w;exact⟨c0,c1,by rw[kI c c0];exact c2⟩
    ·rintro⟨w0,w1,w2⟩;rw[kI d w0] at w2;rw[<-hg];exact(h.sl _ _).2 ⟨w0,w1,w2⟩
   ·rw[ah q,h.sl key d];exact⟨λ⟨w0,w1,w2⟩=>⟨w0,w1,by rw[kI d w0];exact w2⟩,λ⟨w0,w1,w2⟩=>⟨w0,w1,by rw[kI d w0] at w2;exact w2⟩⟩
 |none=>
  have hm:bt l.fB (a,b)=false:=by unfold bt;rw[hg];rfl
  have gY: ∀d:Int,0<=d->d<l.aw.length->(rd l.aw d).key≠(a,b):=λd d0 d1 e=>by
   have:=(h.sl (a,b) d).2 ⟨d0,d1,e⟩;rw[hg] at this;simp at this
  rw[hm,ah aX]
  by_cases aS:(l.aw.length:Int)<l.k
  ·rw[h.k_] at aS;rw[h.k_,ag aS,ag U];simp only[aD];have HX: ∀d:Int,0<=d->d<l.aw.length->rd (l.aw++[bw.mk (a,b) 0 0]) d=rd l.aw d:=λd d0 d1=>vG d0 d1
   have Fo:rd (l.aw++[bw.mk (a,b) 0 0]) (l.aw.length:Int)=bw.mk (a,b) 0 0:=by rw[QB U (dU _),ag J]
   have Ip:A7 ⟨k,l.aw++[bw.mk (a,b) 0 0],cF l.fB (a,b) (l.aw.length:Int),l.cO,l.dz⟩ ord:=
    ⟨h.nd,λc hc=>by have:=(h.mem c).1 hc;simp;omega,FX ord _ _ (λc hc=>by have:=(h.mem c).1 hc;simp only;rw[HX c this.1 this.2];exact⟨J,J⟩) h.yW,h.nw,h.ol⟩
   have jD:(l.aw.length:Int)∉ord:=λz=>by have:=(h.mem _).1 z;omega
   obtain⟨l2,e2,k2,xw,n2,qe,tn⟩:=P2 (c:=(l.aw.length:Int)) Ip U bf jD;rw[e2];simp only[tX,kU,tY] at k2 xw n2 qe;refine Ok.pure ⟨[],ord,⟨k2,Lg,by simp only;omega,tn.nd,λd=>?_,tn.yW,tn.nw,tn.ol,?_,λkey d=>?_⟩,.inr (.inl ⟨J,J,by first |rfl |trivial,J,J,by simp only;omega,λd d0 d1=>?_,?_⟩)⟩
   ·simp only[List.nil_append,nK,n2];rw[h.mem d];omega
   ·simp only;rw[xw];exact DG h.sn _ _
   ·simp only;rw[xw,BG,n2]
    by_cases q:(a,b)=key
    ·rw[ag q,<-q];constructor
     ·intro w;simp only[Option.some.injEq] at w;subst w;exact⟨by omega,by omega,by rw[qe _ U,Fo]⟩
     ·rintro⟨w0,w1,w2⟩
      by_cases y:d=l.aw.length
      ·rw[y]
      ·rw[qe d w0,HX d w0 U] at w2;exact absurd w2 (gY d w0 U)
    ·rw[ah q,h.sl key d];constructor
     ·rintro⟨w0,w1,w2⟩;exact⟨w0,by omega,by rw[qe d w0,HX d w0 w1];exact w2⟩
     ·rintro⟨w0,w1,w2⟩
      by_cases y:d=l.aw.length
      ·rw[y,qe _ U,Fo] at w2;exact absurd w2 q
      ·rw[qe d w0,HX d w0 U] at w2;exact⟨w0,by omega,w2⟩
   ·simp only;rw[qe d d0,HX d d0 d1]
   ·simp only;rw[qe _ U,Fo]
  ·rw[h.k_] at aS;rw[h.k_,ah aS];have bD:ord≠[]:=λz=>by have:=(h.mem 0).2 U;rw[z] at this;simp at this
   have hlm:=Iu ord (-1) bD;have tk:=(h.mem _).1 hlm;obtain⟨A,hA⟩: ∃A,ord=A++jF ord (-1)::[]:=by
    refine⟨ord.dropLast,?_⟩;have:jF ord (-1)=ord.getLast bD:=by
     have: ∀(L:List Int) (p:Int) (hL:L≠[]),jF L p=L.getLast hL:=by
      intro L
      induction L with
      |nil=>intro p hL;exact absurd J hL
      |cons c r ih=>
       intro p hL
       cases r with
       |nil=>rfl
       |cons d r=>rw[List.getLast_cons aX];exact ih c aX
     exact this ord (-1) bD
    rw[this,List.dropLast_concat_getLast]
   rw[<-h.ol] at hA tk;generalize hc:l.dz=c at*;obtain⟨l1,e1,k1,Je,n1,LN,vy⟩:=Za (A:=A) (B:=[]) (c:=c) (hA▸h.WV);rw[e1];simp only[aD];rw[ag U];simp only[aD];have hck:((rd l1.aw c).key.1,(rd l1.aw c).key.2)=(rd l.aw c).key:=by rw[LN c tk.1]
   rw[hck];have hr: ∀d:Int,0<=d->rd (aG l1.aw c.toNat (bw.mk (a,b) (rd l1.aw c).cX (rd l1.aw c).aZ)) d=if d=c then bw.mk (a,b) (rd l1.aw c).cX (rd l1.aw c).aZ else rd l1.aw d:=λd d0=>lR tk.1 U d0
   have rQ:=h.nd;rw[hA] at rQ;obtain⟨nA,nB,_⟩:=Qh rQ;have Ip:A7 ⟨l1.k,aG l1.aw c.toNat (bw.mk (a,b) (rd l1.aw c).cX (rd l1.aw c).aZ),cF (eF l1.fB (rd l.aw c).key) (a,b) c,l1.cO,l1.dz⟩ (A++[]):=
    ⟨vy.nd,λd gO=>by simp only[mo];exact vy.mem d gO,FX _ _ _ (λd gO=>by
      have:=vy.mem d gO;simp only;rw[hr d this.1,ah (λq=>nA (by rw[<-q];simpa using gO))];exact⟨J,J⟩) vy.yW,vy.nw,vy.ol⟩
   obtain⟨l2,e2,k2,xw,n2,qe,tn⟩:=P2 (c:=c) Ip tk.1 bf (by simpa using nA)
   rw[e2];simp only[mo] at k2 xw n2 qe;have kI: ∀d:Int,0<=d->d≠c->(rd l2.aw d).key=(rd l.aw d).key:=λd d0 La=>by rw[qe d d0,hr d d0,ah La,LN d d0]
   have Lh:(rd l2.aw c).key=(a,b):=by rw[qe c tk.1,hr c tk.1,ag J]
   refine Ok.pure ⟨A,[],⟨by simp only;rw[k2,k1];exact h.k_,Lg,by simp only;omega,tn.nd,λd=>?_,tn.yW,tn.nw,tn.ol,?_,λkey d=>?_⟩,.inr (.inr ⟨J,J,by first |rfl |trivial,hA,J,by omega,by simp only;omega,kI,Lh⟩)⟩
   ·have:=h.mem d;rw[hA] at this;simp only[n2,n1,nK,List.mem_append,tZ,or_false] at this⊢;rw[<-this];exact or_comm
   ·simp only;rw[xw,Je];exact DG (LV h.sn _) _ _
   ·simp only;rw[xw,Je,BG,LW h.sn,n2,n1]
    by_cases q:(a,b)=key
    ·rw[ag q,<-q];constructor
     ·intro w;simp only[Option.some.injEq] at w;subst w;exact⟨tk.1,tk.2,Lh⟩
     ·rintro⟨w0,w1,w2⟩
      by_cases y:d=c
      ·rw[y]
      ·rw[kI d w0 y] at w2;exact absurd w2 (gY d w0 w1)
    ·rw[ah q]
     by_cases y:(rd l.aw c).key=key
     ·rw[ag y];constructor
      ·intro w;simp at w
      ·rintro⟨w0,w1,w2⟩
       by_cases x:d=c
       ·rw[x,Lh] at w2;exact absurd w2 q
       ·rw[kI d w0 x] at w2;have a1:=(h.sl key d).2 ⟨w0,w1,w2⟩;have a2:=(h.sl key c).2 ⟨tk.1,tk.2,y⟩;rw[a1] at a2;simp only[Option.some.injEq] at a2;exact absurd a2 x
     ·rw[ah y,h.sl key d];constructor
      ·rintro⟨w0,w1,w2⟩;have x:d≠c:=λx=>y (by rw[<-x];exact w2)
       exact⟨w0,w1,by rw[kI d w0 x];exact w2⟩
      ·rintro⟨w0,w1,w2⟩;have x:d≠c:=λx=>q (by rw[x,Lh] at w2;exact w2)
       exact⟨w0,w1,by rw[kI d w0 x] at w2;exact w2⟩
instance :DecidableEq a_:=λa b=>decidable_of_iff (a.Cell=b.Cell/\a.cY=b.cY/\a.Key=b.Key) (by obtain⟨a1,a2,a3⟩:=a;obtain⟨b1,b2,b3⟩:=b;simp)
theorem QY (a b:a_):((a.Cell==b.Cell)&&((a.cY==b.cY)&&((a.Key==b.Key)&&true)))=decide (a=b):=by
 obtain⟨a1,a2,a3⟩:=a;obtain⟨b1,b2,b3⟩:=b;rw[qC];simp
theorem acr {R:a_->a_->Prop} (s:List a_) (hs:s.Pairwise R) (hb:s.length<=1000000) {x2:Int} (h2:1<=x2/\x2<s.length): ∀(n k:Nat) (x:List a_) (x8 x9:Int),(s.length-x2-x9).toNat<=n->n<k->x.length=s.length->
 1<=x8->x8<=x2+x9-1->1<=x9->x2+x9<=s.length->(∀c:Int,x2+x9-1<=c->c<s.length->rd x c=rd s c)->
 (∀i j:Int,0<=i->i<j->j<x8->R (rd x i) (rd x j))->(∀i c:Int,0<=i->i<x8->x2+x9<=c->c<s.length->R (rd x i) (rd s c))->
 (∀i:Int,0<=i->i<x8->rd x i∈s)->(∀c:Int,0<=c->c<x2+x9-> ∃i:Int,0<=i/\i<x8/\rd x i=rd s c)->
 Ok (jY.l1 k s x2 x x8 x9) (λr=>r.length<=s.length/\(∀e,e∈r↔e∈s)/\r.Pairwise R):=by
 intro n
 induction n with
 |zero=>
  intro k x x8 x9 hn hk hx h8 Uc h9 hle hc hR Hm bZ uo;obtain⟨k,rfl⟩:=bl hk;have Fp:((aB x x2 (s.length:Int)).length:Int)=s.length-x2:=by rw[je U];omega
  rw[jY.l1,Fp,ah U,ag U];have e:(cC x (ax x8) (aa (aB x x8 (aa x:Int))) (cy (aa (aB x x8 (aa x:Int))) (default:a_)))=x.take x8.toNat++cy (x.length-x8.toNat) default:=by
   unfold cC;rw[je U,A_ U];simp
  rw[e];have e2:aB (x.take x8.toNat++cy (x.length-x8.toNat) (default:a_)) 0 x8=x.take x8.toNat:=by
   unfold aB;simp only[Int.toNat_zero,List.drop_zero,Nat.sub_zero];rw[List.take_append_of_le_length bf,List.take_take];simp
  have hr: ∀i:Int,0<=i->i<x8->rd (x.take x8.toNat) i=rd x i:=λi i0 i1=>by
   rw[jc (xs:=List.take _ _) bf,List.getElem_take,jc U]
  have hl:(x.take x8.toNat).length=x8.toNat:=by simp;omega
  refine Ok.cz bf ?_;rw[e2];refine Ok.pure ⟨by omega,λy=>⟨λhy=>?_,λhy=>?_⟩,?_⟩
  ·obtain⟨i,i0,i1,rfl⟩:=ka hy;rw[hr i i0 U];exact bZ i i0 U
  ·obtain⟨c,c0,c1,rfl⟩:=ka hy;obtain⟨i,i0,i1,q⟩:=uo c c0 U;rw[<-q,<-hr i i0 i1];exact dR i0 U
  ·refine QC λi j i0 ij j1=>?_
   rw[hr i i0 U,hr j U U];exact hR i j i0 ij U
 |succ n ih=>
  intro k x x8 x9 hn hk hx h8 Uc h9 hle hc hR Hm bZ uo
  by_cases Fe:x2+x9=s.length
  ·exact ih k x x8 x9 U U hx h8 Uc h9 hle hc hR Hm bZ uo
  obtain⟨k,rfl⟩:=bl hk;have Fp:((aB x x2 (s.length:Int)).length:Int)=s.length-x2:=by rw[je U];omega
  have Ls: ∀i:Int,0<=i->i<s.length-x2->rd (aB x x2 (s.length:Int)) i=rd x (x2+i):=λi i0 i1=>by
   unfold aB;rw[jc (xs:=List.take _ _) bf,List.getElem_take,List.getElem_drop,jc U]
   congr 1;omega
  rw[jY.l1,Fp,wi (x:=x9-1) U U];simp only[QY];rw[Ls x9 U U,Ls (x9-1) U U,hc (x2+x9) U U,hc (x2+(x9-1)) U U,wi (x:=x9+1) U U];refine Ok.pos U (Ok.cz U (Ok.cz U (Ok.ite (λq=>Ok.cz U ?_) λq=>?_)))
  ·rw[wi U U];have eD: ∀c:Int,0<=c->rd (aG x x8.toNat (rd s (x2+x9))) c=if c=x8 then rd s (x2+x9) else rd x c:=λc c0=>lR U U c0
   refine ih k _ (x8+1) (x9+1) U U (by simpa using hx) U U U U (λc c0 c1=>?_) (λi j i0 ij j1=>?_) (λi c i0 i1 c0 c1=>?_) (λi i0 i1=>?_) (λc c0 c1=>?_)
   ·rw[eD c U,ah U];exact hc c U c1
   ·rw[eD i i0,eD j U,ah U];split
    ·exact Hm i _ i0 U U U
    ·exact hR i j i0 ij U
   ·rw[eD i i0];split
    ·exact vD hs U U c1
    ·exact Hm i c i0 U U c1
   ·rw[eD i i0];split
    ·exact dR U U
    ·exact bZ i i0 U
   ·by_cases z:c=x2+x9
    ·exact⟨x8,by omega,by omega,by rw[eD _ U,ag J,z]⟩
    ·obtain⟨i,i0,i1,y⟩:=uo c c0 U;exact⟨i,i0,by omega,by rw[eD i i0,ah U];exact y⟩
  ·have q:rd s (x2+x9)=rd s (x2+(x9-1)):=by simpa using q
   refine ih k x x8 (x9+1) U U hx h8 U U U (λc c0 c1=>hc c U c1) hR (λi c i0 i1 c0 c1=>Hm i c i0 i1 U c1) bZ (λc c0 c1=>?_)
   by_cases z:c=x2+x9
   ·rw[z,q];exact uo _ U U
   ·exact uo c c0 U
theorem acq {R:a_->a_->Prop} (s:List a_) (hs:s.Pairwise R) (hb:s.length<=1000000): ∀(n k:Nat) (i:Int),(s.length-i).toNat<=n->n<k->1<=i->
 Ok (jY.l0 k s i) (λr=>r.length<=s.length/\(∀e,e∈r↔e∈s)/\r.Pairwise R):=by
 intro n
 induction n with
 |zero=>
  intro k i hn hk hi;obtain⟨k,rfl⟩:=bl hk;rw[jY.l0,ah U];exact Ok.pure ⟨l7 _,λ_=>Iff.rfl,hs⟩
 |succ n ih=>
  intro k i hn hk hi;obtain⟨k,rfl⟩:=bl hk;rw[jY.l0];refine Ok.ite (λhl=>?_) λ_=>Ok.pure ⟨l7 _,λ_=>Iff.rfl,hs⟩
  rw[wi (x:=i-1) U U];simp only[QY];refine Ok.cz U (Ok.cz U (Ok.ite (λq=>Ok.cz U ?_) λq=>?_))
  ·have q:rd s i=rd s (i-1):=by simpa using q
   refine acr s hs hb (x2:=i) U s.length fuel s i 1 U (by rw[cI];omega) J hi U U U (λ_ _ _=>rfl) (λa b a0 ab b1=>vD hs a0 ab U) (λa c a0 a1 c0 c1=>vD hs a0 U c1) (λa a0 a1=>dR a0 U) (λc c0 c1=>?_)
   by_cases z:c=i
   ·exact⟨i-1,by omega,by omega,by rw[z,q]⟩
   ·exact⟨c,c0,by omega,J⟩
  ·rw[wi U U];exact ih k (i+1) U U U
theorem acp {R:a_->a_->Prop} (s:List a_) (hs:s.Pairwise R) (hb:s.length<=1000000):Ok (jY.f s) (λr=>r.length<=s.length/\(∀e,e∈r↔e∈s)/\r.Pairwise R):=by
 unfold jY.f;exact Ok.ite (λ_=>Ok.pure ⟨l7 _,λ_=>Iff.rfl,hs⟩) λ_=>acq s hs hb s.length fuel 1 U (by rw[cI];omega) U
def Bh (x y:Int):Int:=if x<y then-1 else if x>y then 1 else 0
theorem acm (x y:Int):uf.f x y=some (Bh x y):=by
 unfold uf.f cmp_isNaN_int.f Bh;simp only[aD,bne_self_eq_false,gj,if_false];split
 ·rfl
 ·split<;>rfl
theorem aic (a b c:Int):nM.f [a,b,c]=some (if a≠0 then a else if b≠0 then b else c):=by
 unfold nM.f;obtain⟨k,hk⟩: ∃q,fuel=q+1+1+1+1:=⟨fuel-4,by rw[cI]⟩
 have w1:af (0+1)=1:=rfl;have w2:af (1+1)=2:=rfl;have w3:af (2+1)=3:=rfl;have e0:rd [a,b,c] 0=a:=rfl;have e1:rd [a,b,c] 1=b:=rfl;have e2:rd [a,b,c] 2=c:=rfl;have l3:(aa [a,b,c]:Int)=3:=rfl;rw[hk];simp only[nM.l0,l3,w1,w2,w3,e0,e1,e2]
 by_cases ha:a=0
 ·by_cases hb:b=0
  ·by_cases hc:c=0<;>simp[ha,hb,hc]
  ·simp[ha,hb]
 ·simp[ha]
def vJ (a b:a_):Int:=if Bh a.Key b.Key≠0 then Bh a.Key b.Key else if Bh a.Cell b.Cell≠0 then Bh a.Cell b.Cell else Bh a.cY b.cY
theorem aid (a b:a_):qu.f a b=some (vJ a b):=by
 unfold qu.f;simp only[acm,aic,aD];rfl
def uJ (a b:a_):Prop:=a.Key<b.Key∨a.Key=b.Key/\(a.Cell<b.Cell∨a.Cell=b.Cell/\a.cY<b.cY)
theorem Ms (a b:a_):ltOf vJ a b=true↔uJ a b:=by
 unfold ltOf vJ uJ Bh;rw[decide_eq_true_iff]
 repeat' split
 all_goals omega
theorem swo:Go.Sort.SWO (ltOf vJ):=by
 refine⟨λx=>?_,λx y z h1 h2=>?_,λx y z h1 h2=>?_⟩
 ·rw[<-Bool.not_eq_true,Ms];unfold uJ;omega
 ·rw[Ms] at*;unfold uJ at*;omega
 ·rw[<-Bool.not_eq_true,Ms] at*;unfold uJ at*;omega
theorem Q4 (l:List a_) (hb:l.length<=1000000):Ok (oc.f l) (λr=>r.length<=l.length/\(∀e,e∈r↔e∈l)/\r.Pairwise (λa b=> ¬uJ b a)):=by
 unfold oc.f tI.f B1.f;have e:(λa b=>Option.getD (qu.f a b) 0)=vJ:=by funext a b;rw[aid];rfl
 have hlen:=Jh swo l;obtain⟨⟨p1,p2,p3⟩,hs⟩:=YL swo l;have hp: ∀x,x∈qy vJ l↔x∈l:=λx=>by
  have h1:(qy vJ l).toArray.extract 0 l.length=(qy vJ l).toArray:=by rw[<-hlen];simp
  have h2:l.toArray.extract 0 l.length=l.toArray:=by simp
  rw[h1,h2] at p3;exact p3.mem_iff
 have hpw:(qy vJ l).Pairwise (λa b=> ¬uJ b a):=QC λi j i0 ij j1=>by
  have:=hs i.toNat j.toNat U U U;rw[<-Ms];have g: ∀c:Int,0<=c->c<(qy vJ l).length->(qy vJ l).toArray[c.toNat]! =rd (qy vJ l) c:=λc c0 c1=>by
   rw[jc U];simp;rw[List.getElem?_eq_getElem U];rfl
  rw[g i i0 U,g j U U] at this;simp[this]
 refine Ok.eq (ag bf) ?_;simp only[List.nil_append,e];refine Ok.eq (ag U) ((acp _ hpw U).bind λr hr=>Ok.pure ⟨by omega,λx=>(hr.2.1 x).trans (hp x),hr.2.2⟩)
def I' (t:aJ) (c side:Int):Prop:=side=4∨(0<=side/\side<=3/\vI t.W t.H c side)
def rD (t:aJ) (s:a_):Prop:=0<=s.Cell/\s.Cell<t.C.length/\rd t.C s.Cell≠255/\0<=s.Key/\s.Key<=1073741824/\I' t s.Cell s.cY
theorem aie {t:aJ} (h:mX t) {c side:Int} (c0:0<=c) (c1:c<t.C.length):Ok (Eg.f t c side) (λb=>b=true↔I' t c side):=by
 unfold Eg.f I' vI;obtain⟨a,b,d,e,f,_⟩:=h.1;have hl:=pd h.1;have hq:0<=c/t.W/\c/t.W<=c:=⟨Int.ediv_nonneg c0 U,Int.ediv_le_self _ c0⟩;rw[nF c0,qz c0,wi (x:=c/t.W) U U,wi (x:=t.W-1) U U,wi (x:=t.H-1) U U];refine Ok.cz U (Ok.cz U (Ok.ite (λz=>Ok.pure ?_) λz=>Ok.ite (λz=>Ok.pure ?_) λz=>Ok.ite (λz=>Ok.pure ?_) λz=>Ok.ite (λz=>Ok.pure ?_) λz=>Ok.pure ?_))
 all_goals simp only[beq_iff_eq] at*
 ·subst z;simp
 ·subst z;simp
 ·subst z;simp
 ·subst z;simp
 ·constructor
  ·exact .inl
  ·rintro(q |q)
   ·exact q
   ·omega
theorem ahl {t:aJ} (h:mX t) (s:a_):Ok (Ef.f s t) (λb=>b=true↔ ¬rD t s):=by
 unfold Ef.f rD;refine(?_:Ok _ (λb:Bool=>b=true↔ ¬rD t s)).bind λr hr=>Ok.pure hr
 unfold rD;refine Ok.ite (λz=>Ok.pure ?_) λz1=>Ok.ite (λz=>Ok.pure ?_) λz2=>Ok.cz U (Ok.ite (λz=>Ok.pure ?_) λz3=>Ok.ite (λz=>Ok.pure ?_) λz4=>Ok.ite (λz=>Ok.pure ?_) λz5=>?_)
 ·simp;omega
 ·simp;omega
 ·have z:rd t.C s.Cell=255:=by simpa using z
  simp[z]
 ·simp;omega
 ·simp;omega
 ·refine(aie h U U).bind λr hr=>Ok.pure ?_
  have z3:rd t.C s.Cell≠255:=by simpa using z3
  cases r
  ·have: ¬I' t s.Cell s.cY:=λq=>by have:=hr.2 q;simp at this
   simp[this]
  ·have:I' t s.Cell s.cY:=hr.1 J;simp only[mV,gj,false_iff,Classical.not_not];exact⟨by omega,by omega,z3,by omega,by omega,this⟩
theorem agm {t:aJ} (h:mX t) (l:List a_) (hb:l.length<=1000000): ∀(n k:Nat) (i:Int),(l.length-i).toNat<=n->n<k->0<=i->(∀j:Int,0<=j->j<i->rD t (rd l j))->
 Ok (sk.l0 k l t i) (λr=>0<=r↔ ¬ ∀s∈l,rD t s):=by
 intro n
 induction n with
 |zero=>
  intro k i hn hk hi ha;obtain⟨k,rfl⟩:=bl hk;rw[sk.l0,ah U];refine Ok.pure ⟨λq=>by omega,λq=>absurd (λs hs=>?_) q⟩
  obtain⟨j,j0,j1,rfl⟩:=ka hs;exact ha j j0 U
 |succ n ih=>
  intro k i hn hk hi ha
  by_cases aS:i<l.length
  ·obtain⟨k,rfl⟩:=bl hk;rw[sk.l0];refine Ok.pos aS (Ok.cz ⟨hi,aS⟩ ((ahl h (rd l i)).bind λb jR=>Ok.ite (λq=>Ok.pure ⟨λ_ y=>jR.1 q (y _ (dR hi aS)),λ_=>hi⟩) λq=>?_));rw[wi U U];refine ih k (i+1) U U U (λj j0 j1=>?_)
   by_cases z:j=i
   ·rw[z];exact jL λy=>q (jR.2 y)
   ·exact ha j j0 U
  ·exact ih k i U U hi ha
theorem YK {t:aJ} (h:mX t) (l:List a_) (hb:l.length<=1000000):Ok (AL.f t l) (λb=>b=true↔ ∀s∈l,rD t s):=by
 have hl:=pd h.1;unfold AL.f F1.f sk.f;rw[My _ U,decide_eq_true h.1];refine Ok.eq J (Ok.neg aX (((agm h l hb l.length fuel 0 U (by rw[cI];omega) U (λj j0 j1=>by omega)).bind λr hr=>Ok.pure (P:=λb=>b=true↔ ¬ ∀s∈l,rD t s) (by simp only[decide_eq_true_iff];exact hr)).bind λr hr=>Ok.pure ?_))
 cases r
 ·simp only[vZ,true_iff];exact jL λy=>by have:=hr.2 y;simp at this
 ·simp only[mV,gj,false_iff];exact hr.1 J
theorem ajW (a b:List a_) (hl:a.length=b.length) (hb:a.length<=1000000): ∀(n k:Nat) (i:Int),(a.length-i).toNat<=n->n<k->0<=i->(∀j:Int,0<=j->j<i->rd a j=rd b j)->
 sj.l0 k a b i=some (decide (a=b)):=by
 intro n
 induction n with
 |zero=>
  intro k i hn hk hi ha;obtain⟨k,rfl⟩:=bl hk;rw[sj.l0,ah U,decide_eq_true (xe hl λj j0 j1=>ha j j0 U)]
 |succ n ih=>
  intro k i hn hk hi ha
  by_cases aS:i<a.length
  ·obtain⟨k,rfl⟩:=bl hk;rw[sj.l0,ag aS,ag ⟨hi,aS⟩,ag U,QY]
   by_cases q:rd a i=rd b i
   ·rw[ah (by simp[q]),wi U U]
    refine ih k (i+1) U U U (λj j0 j1=>?_)
    by_cases z:j=i
    ·rw[z];exact q
    ·exact ha j j0 U
   ·rw[ag (by simp[q]),decide_eq_false (λy=>q (by rw[y]))]
  ·exact ih k i U U hi ha
theorem akj (a b:List a_) (hb:a.length<=1000000):BX.f a b=some (decide (a=b)):=by
 unfold BX.f sj.f
 by_cases hl:a.length=b.length
 ·rw[ah (by simp[hl]),ajW a b hl hb a.length fuel 0 U (by rw[cI];omega) U (λj j0 j1=>by omega)];rfl
 ·rw[ag bf,decide_eq_false (λy=>hl (by rw[y]))];rfl
theorem abJ (l:List a_) (c side:Int) (hb:l.length<=1000000): ∀(n k:Nat) (x:Int) (b:Bool) (i:Int),(l.length-i).toNat<=n->n<k->0<=i->
 ∃r,ly.l0 k l c side x b i=some r:=by
 intro n
 induction n with
 |zero=>
  intro k x b i hn hk hi;obtain⟨k,rfl⟩:=bl hk;exact⟨x,by rw[ly.l0,ah U]⟩
 |succ n ih=>
  intro k x b i hn hk hi
  by_cases aS:i<l.length
  ·obtain⟨k,rfl⟩:=bl hk;rw[ly.l0,ag aS,ag ⟨hi,aS⟩,wi U U];have: ∃q,(if((rd l i).Cell==c)=true then(if((rd l i).cY==side)=true then(if(!b)=true then(some true) else(some (decide ((rd l i).Key<x)))) else(some false)) else(some false))=some q:=by
    repeat' split
    all_goals exact⟨_,J⟩
   obtain⟨q,hq⟩:=this;rw[hq,aD];split
   ·exact ih k _ _ (i+1) U U U
   ·exact ih k _ _ (i+1) U U U
  ·exact ih k x b i U U hi
theorem abI (l:List a_) (c side:Int) (hb:l.length<=1000000): ∃r,ly.f l c side=some r:=
 abJ l c side hb l.length fuel _ _ 0 U (by rw[cI];omega) U
def lr (b:kn):List Int:=b.items.drop b.gone.toNat
def kO:List kn->Int
 |[]=>0
 |b::l=>(lr b).length+kO l
theorem Rb: ∀l,0<=kO l
 |[]=>dU _
 |b::l=>by have:=Rb l;unfold kO;omega
theorem Y9: ∀(l:List kn) (j:Nat) (b:kn),j<l.length->kO (l.set j b)=kO l-(lr (rd l (j:Int))).length+(lr b).length
 |[],j,b,h=>by simp at h
 |a::l,0,b,_=>by simp[kO,rd];omega
 |a::l,j+1,b,h=>by
  have:=Y9 l j b (by simpa using h)
  have e:rd (a::l) ((j+1:Nat):Int)=rd l (j:Int):=by unfold rd;simp
  simp only[List.set_cons_succ,kO];rw[this,e];omega
theorem Y6: ∀(l:List kn) (j:Nat),j<l.length->((lr (rd l (j:Int))).length:Int)<=kO l
 |a::l,0,_=>by have:=Rb l;simp[kO,rd];omega
 |a::l,j+1,h=>by
  have:=Y6 l j (by simpa using h)
  have e:rd (a::l) ((j+1:Nat):Int)=rd l (j:Int):=by unfold rd;simp
  simp only[kO];rw[e];omega
theorem Y8: ∀(l:List kn),0<kO l-> ∃j:Nat,j<l.length/\lr (rd l (j:Int))≠[]
 |[],h=>by simp[kO] at h
 |a::l,h=>by
  by_cases z:lr a=[]
  ·obtain⟨j,h1,h2⟩:=Y8 l (by simp[kO,z] at h;exact h)
   exact⟨j+1,by simpa using h1,by have e:rd (a::l) ((j+1:Nat):Int)=rd l (j:Int):=by unfold rd;simp
                                  rw[e];exact h2⟩
  ·exact⟨0,by simp,by simpa[rd] using z⟩
theorem Y7 {n:Nat}: ∀(l:List kn),(∀b∈l,b.items.length<=n)->kO l<=l.length*n
 |[],_=>by simp[kO]
 |b::l,h=>by
  have:=Y7 l (λb hb=>h b (j6 _ hb));have hb:=h b (jj ..);have:(lr b).length<=b.items.length:=by unfold lr;simp
  rw[kO,kU,Int.natCast_add,Int.add_mul,Int.natCast_one,Int.one_mul];omega
structure iV (r:fa) (n:Nat):Prop where
 len_:r.buckets.length=256
 at_:0<=r.bc/\r.bc<=8796093022208
 gone: ∀b∈r.buckets,0<=b.gone/\b.gone<=b.items.length/\b.items.length<=n
 Cb:r.len=kO r.buckets
 n_:n<=1000000000
def Has (r:fa) (k i:Int):Prop:=r.bc<=k/\k<r.bc+256/\i∈lr (rd r.buckets (k%256))
variable {r : fa} {n : Nat}
theorem iV.DB (h:iV r n):0<=r.len/\r.len<=256000000000:=by
 have h1:=Rb r.buckets;have h2:=Y7 r.buckets (λb hb=>(h.gone b hb).2.2);have:=h.n_;rw[h.len_] at h2;rw[h.Cb];omega
theorem iV.none (h:iV r n) (h0:r.len=0) (k i:Int): ¬Has r k i:=by
 rintro⟨h1,h2,h3⟩;have:=Y6 r.buckets (k%256).toNat (by rw[h.len_];omega)
 rw[<-h.Cb,h0,show(((k%256).toNat:Nat):Int)=k%256 by omega] at this
 have:=List.length_pos_iff.2 (List.ne_nil_of_mem h3);omega
theorem iV.some (h:iV r n) (h0:r.len≠0): ∃k i,Has r k i:=by
 have:=h.DB;obtain⟨j,j1,j2⟩:=Y8 r.buckets (by rw[<-h.Cb];omega)
 obtain⟨i,hi⟩:=List.exists_mem_of_ne_nil _ j2;rw[h.len_] at j1;have ha:=h.at_;refine⟨r.bc+(j-r.bc%256)%256,i,by omega,by omega,?_⟩
 rw[show(r.bc+(j-r.bc%256)%256)%256=(j:Int) by omega];exact hi
theorem ajd: ∃r,xj.f 0=some (some r)/\r.bc=0/\iV r 0/\ ∀k i,¬Has r k i:=by
 refine⟨_,J,J,⟨List.length_replicate ..,⟨dU _,by decide⟩,λb hb=>?_,?_,by omega⟩,λk i=>?_⟩
 ·rw[List.mem_replicate] at hb;rw[hb.2];exact⟨dU _,dU _,l7 _⟩
 ·have: ∀n,kO (cy n (default:kn))=0:=λn=>by
   induction n with
   |zero=>rfl
   |succ n ih=>rw[List.replicate_succ,kO,ih];rfl
  rw[this]
 ·rintro⟨_,_,h3⟩;rw[uC U U] at h3;have:lr (default:kn)=[]:=rfl;rw[this] at h3;simp at h3
theorem Yk {b:kn} {j:Int} {l:Int} (h:iV r n) {n':Nat} (hn:n<=n') (HR:n'<=1000000000) (j0:0<=j) (j1:j<256) (hb:0<=b.gone/\b.gone<=b.items.length/\b.items.length<=n') {a:Int} (ha:0<=a/\a<=8796093022208)
 (hl:l=r.len-(lr (rd r.buckets j)).length+(lr b).length):iV ⟨a,l,aG r.buckets j.toNat b⟩ n':=by
 refine⟨by simp[h.len_],ha,λc hc=>?_,?_,HR⟩
 ·rcases List.mem_or_eq_of_mem_set hc with z |rfl
  ·have:=h.gone c z;omega
  ·exact hb
 ·simp only;rw[Y9 _ _ _ (by rw[h.len_];omega),hl,h.Cb,show((j.toNat:Nat):Int)=j by omega]
theorem Yl (h:iV r n) (hn:n<1000000000) {key:Int} (k1:key<=8796093022208) (k0:0<=key) (i:Int):
 Ok (uD.f r key i) (λx=>x.2.bc=r.bc/\iV x.2 (n+1)/\((x.1=true/\r.bc<=key/\key<r.bc+256/\x.2.len=r.len+1/\ ∀k j,Has x.2 k j↔Has r k j∨(k=key/\j=i))∨(x.1=false/\(key<r.bc∨r.bc+256<=key)/\x.2=r))):=by
 have ha:=h.at_;have hl:=h.DB;unfold uD.f;have e:(if key<r.bc then some true else some (decide (af (key-r.bc)≥256)))=some (decide (key<r.bc∨r.bc+256<=key)):=by
  rw[wi U U]
  by_cases z:key<r.bc
  ·simp[z]
  ·simp only[z,if_false,false_or];congr 2;rw[eq_iff_iff];constructor<;>intro<;>omega
 have hs:iV r (n+1):=⟨h.len_,h.at_,λb hb=>by have:=h.gone b hb;omega,h.Cb,by omega⟩
 refine Ok.eq e (Ok.ite (λz=>Ok.pure ⟨J,hs,.inr ⟨J,of_decide_eq_true z,J⟩⟩) λz=>?_);have z: ¬(key<r.bc∨r.bc+256<=key):=by simpa using z
 rw[nF k0];have hb:=h.gone (rd r.buckets (key%256)) (dR U (by rw[h.len_];omega))
 refine Ok.cz (by rw[h.len_];omega) ?_
 unfold AB.f;rw[ag U];have hp:lr ⟨(rd r.buckets (key%256)).items++[i],(rd r.buckets (key%256)).gone⟩=lr (rd r.buckets (key%256))++[i]:=by
  unfold lr;simp only;rw[List.drop_append_of_le_length U]
 refine Ok.pure ⟨J,Yk (b:=⟨(rd r.buckets (key%256)).items++[i],(rd r.buckets (key%256)).gone⟩) h (Nat.le_succ n) U U U ⟨hb.1,by simp;omega,by simp;omega⟩ ha ?_,.inl ⟨J,by omega,by omega,?_,λk j=>?_⟩⟩
 ·rw[wi U U,hp];simp;omega
 ·simp only;rw[wi U U]
 ·unfold Has;simp only;rw[lR U (by rw[h.len_];omega) U]
  by_cases y:k%256=key%256
  ·rw[ag y,hp,y];constructor
   ·rintro⟨a,b,c⟩;rcases List.mem_append.1 c with c |c
    ·exact .inl ⟨a,b,c⟩
    ·exact .inr ⟨by omega,by simpa using c⟩
   ·rintro(⟨a,b,c⟩ |⟨rfl,rfl⟩)
    ·exact⟨a,b,wc _ c⟩
    ·exact⟨by omega,by omega,by simp⟩
  ·rw[ah y];constructor
   ·exact .inl
   ·rintro(q |⟨rfl,_⟩)
    ·exact q
    ·exact absurd J y
theorem aiq: ∀(m k:Nat) (r:fa) (x y:Int),(x-r.bc).toNat<=m->m<k->iV r n->x<=8796093022208->Has r x y->
 Ok (pH.l0 k r) (λq=>iV q n/\q.buckets=r.buckets/\q.len=r.len/\r.bc<=q.bc/\lr (rd q.buckets (q.bc%256))≠[]/\ ∀a b,Has q a b↔Has r a b):=by
 intro m
 induction m with
 |zero=>
  intro k r x y hm hk h hx hy;obtain⟨k,rfl⟩:=bl hk;have ha:=h.at_;have qR:x=r.bc:=by have:=hy.1;omega
  subst qR;rw[pH.l0,nF ha.1];unfold yT.f;have bD:=List.ne_nil_of_mem hy.2.2;refine Ok.cz (by rw[h.len_];omega) (Ok.neg ?_ (Ok.pure ⟨h,J,J,by omega,bD,λ_ _=>Iff.rfl⟩))
  intro z;have z:(rd r.buckets (r.bc%256)).gone=(rd r.buckets (r.bc%256)).items.length:=by simpa using z
  exact bD (by unfold lr;rw[z];simp)
 |succ m ih=>
  intro k r x y hm hk h hx hy;obtain⟨k,rfl⟩:=bl hk;have ha:=h.at_;rw[pH.l0,nF ha.1];unfold yT.f;have vn:=h.gone (rd r.buckets (r.bc%256)) (dR U (by rw[h.len_];omega))
  refine Ok.cz (by rw[h.len_];omega) (Ok.ite (λz=>?_) λz=>Ok.pure ⟨h,J,J,by omega,λq=>?_,λ_ _=>Iff.rfl⟩)
  ·have z:(rd r.buckets (r.bc%256)).gone=(rd r.buckets (r.bc%256)).items.length:=by simpa using z
   have hp:lr (rd r.buckets (r.bc%256))=[]:=by unfold lr;rw[z];simp
   have bD:x≠r.bc:=by rintro rfl;have:=hy.2.2;rw[hp] at this;simp at this
   have:=hy.1;rw[wi U U];have hh: ∀a b,Has ⟨r.bc+1,r.len,r.buckets⟩ a b↔Has r a b:=λa b=>by
    unfold Has;simp only;constructor
    ·rintro⟨q1,q2,q3⟩;refine⟨by omega,?_,q3⟩
     apply jL;intro q;have:a%256=r.bc%256:=U;rw[this,hp] at q3;simp at q3
    ·rintro⟨q1,q2,q3⟩;refine⟨?_,by omega,q3⟩
     apply jL;intro q;have:a=r.bc:=U;rw[this,hp] at q3;simp at q3
   refine(ih k ⟨r.bc+1,r.len,r.buckets⟩ x y (by simp only;omega) U ⟨h.len_,by simp only;omega,h.gone,h.Cb,h.n_⟩ hx ((hh x y).2 hy)).mono λq hq=>⟨hq.1,hq.2.1,hq.2.2.1,by have:=hq.2.2.2.1;simp only at this;omega,hq.2.2.2.2.1,λa b=>(hq.2.2.2.2.2 a b).trans (hh a b)⟩
  ·unfold lr at q;rw[List.drop_eq_nil_iff] at q;exact z bf
theorem ajk (h:iV r n) {x y:Int} (hx:x<=8796093022208) (hy:Has r x y):
 Ok (pH.f r) (λq=>q.2.2.1=true/\iV q.2.2.2 n/\q.2.2.2.bc=q.1/\q.2.2.2.len=r.len-1/\Has r q.1 q.2.1/\(∀a b,Has r a b->q.1<=a)/\(∀a b,Has q.2.2.2 a b->Has r a b)/\ ∀a b,Has r a b->(a=q.1/\b=q.2.1)∨Has q.2.2.2 a b):=by
 unfold pH.f xk.f;have hl:=h.DB;have yp:r.len≠0:=λz=>h.none z x y hy
 refine Ok.eq J (Ok.neg (by simpa using yp) ((aiq (x-r.bc).toNat fuel r x y U (by rw[cI];have:=h.at_;omega) h hx hy).bind λq hq=>?_))
 obtain⟨h1,h2,h3,h4,h5,h6⟩:=hq;have ha:=h1.at_;rw[nF ha.1];have hb:=h1.gone (rd q.buckets (q.bc%256)) (dR U (by rw[h1.len_];omega))
 refine Ok.cz (by rw[h1.len_];omega) ?_
 generalize hB:rd q.buckets (q.bc%256)=B at hb h5;have hg:B.gone<B.items.length:=by
  apply jL;intro z;exact h5 (by unfold lr;rw[List.drop_eq_nil_iff];omega)
 have Lp:lr B=rd B.items B.gone::B.items.drop (B.gone+1).toNat:=by unfold lr;rw[CV hb.1 hg]
 have hn:=h1.n_;have agf: ∃B',tA.f B=some (rd B.items B.gone,B')/\lr B'=B.items.drop (B.gone+1).toNat/\0<=B'.gone/\B'.gone<=B'.items.length/\B'.items.length<=n:=by
  unfold tA.f yT.f;rw[ag ⟨hb.1,hg⟩,wi U U];simp only[aD]
  by_cases z:B.gone+1=B.items.length
  ·rw[ag (by simpa using z),ag U]
   exact⟨_,J,by unfold lr aB;simp;omega,dU _,by simp,by simp[aB]⟩
  ·rw[ah (by simpa using z)]
   exact⟨_,J,J,by simp only;omega,by simp only;omega,hb.2.2⟩
 obtain⟨B',e1,e2,e3⟩:=agf;have hR:iV ⟨q.bc,af (q.len-1),aG q.buckets (ax (q.bc%256)) B'⟩ n:=by
  refine Yk h1 (l7 _) hn U U e3 ha ?_;rw[wi U U,hB,Lp,e2];simp;omega
 have adL:Has r q.bc (rd B.items B.gone):=(h6 _ _).1 ⟨by omega,by omega,by rw[hB,Lp];simp⟩
 have eD: ∀a:Int,rd (aG q.buckets (ax (q.bc%256)) B') (a%256)=if a%256=q.bc%256 then B' else rd q.buckets (a%256):=λa=>lR U (by rw[h1.len_];omega) U
 refine Ok.eq e1 (Ok.pure ⟨J,hR,J,by simp only;rw[wi U U,h3],adL,λa b zV=>((h6 a b).2 zV).1,λa b zV=>?_,λa b zV=>?_⟩)
 ·obtain⟨q1,q2,q3⟩:=zV;simp only at q1 q2 q3;rw[eD] at q3;refine(h6 a b).1 ⟨q1,q2,?_⟩;split at q3
  ·rename_i z;rw[z,hB,Lp];rw[e2] at q3;exact j6 _ q3
  ·exact q3
 ·obtain⟨q1,q2,q3⟩:=(h6 a b).2 zV
  by_cases z:a%256=q.bc%256
  ·have:a=q.bc:=U;subst this;rw[hB,Lp] at q3;rcases List.mem_cons.1 q3 with y |y
   ·exact .inl ⟨J,y⟩
   ·exact .inr ⟨q1,q2,by simp only;rw[eD,ag J,e2];exact y⟩
  ·exact .inr ⟨q1,q2,by simp only;rw[eD,ah z];exact q3⟩
theorem agG (h:iV r n) {key:Int} (k0:0<=key) (k1:key<=1099511627776) (h0:r.len=0):
 Ok (yS.f r key) (λx=>iV x.2 n/\x.2.len=0/\x.2.bc=if key<r.bc then r.bc else key):=by
 unfold yS.f;rw[ah U];refine Ok.eq J (Ok.ite (λz=>Ok.pure ⟨h,h0,?_⟩) λz=>Ok.pure ⟨⟨h.len_,by simp only;omega,h.gone,h.Cb,h.n_⟩,h0,?_⟩)
 ·simp at z;rw[ag U]
 ·simp at z;rw[ah U]
theorem iV.mono {r:fa} {n n':Nat} (h:iV r n) (hn:n<=n') (hb:n'<=1000000000):iV r n':=⟨h.len_,h.at_,λb hb=>by have:=h.gone b hb;omega,h.Cb,hb⟩
structure JK (r:fa) (todo:List a_) (n:Nat) (r':fa) (MA:List a_):Prop where
 ring: ∃n',iV r' n'/\n'+MA.length<=n+todo.length
 rU: ∀k i,Has r k i->Has r' k i
 new: ∀k i,Has r' k i->Has r k i∨ ∃x∈todo,x.Key=k/\x.Cell=i
 YV: ∃a,todo=a++MA/\ ∀x∈a,Has r' x.Key x.Cell
 len_:r'.len+2*MA.length<=r.len+2*todo.length
 at_:r'.bc=r.bc
 end_: ∀x l,MA=x::l->x.Key<r'.bc∨r'.bc+256<=x.Key
theorem ade (s:dw): ∀(m k:Nat) (r:fa) (todo:List a_) (n:Nat),todo.length<=m->m<k->iV r n->n+todo.length<=2000000->(∀x∈todo,0<=x.Key/\x.Key<=1073741824)->
 Ok (kz.l0 k s r todo) (λq=>q.t=s.t/\q.aR=s.aR/\JK r todo n q.wait q.todo):=by
 have nil: ∀(k:Nat) (r:fa) (n:Nat),iV r n->Ok (kz.l0 (k+1) s r []) (λq=>q.t=s.t/\q.aR=s.aR/\JK r [] n q.wait q.todo):=by
  intro k r n h;rw[kz.l0,ah aX];exact Ok.pure ⟨J,J,⟨⟨n,h,by simp⟩,λ_ _ q=>q,λ_ _ q=> .inl q,⟨[],J,by simp⟩,dU _,J,by simp⟩⟩
 intro m
 induction m with
 |zero=>
  intro k r todo n hm hk h hn hx;obtain⟨k,rfl⟩:=bl hk;have:todo=[]:=List.length_eq_zero_iff.1 U;subst this;exact nil k r n h
 |succ m ih=>
  intro k r todo n hm hk h hn hx;obtain⟨k,rfl⟩:=bl hk
  cases todo with
  |nil=>exact nil k r n h
  |cons x l=>
   simp only[kU] at hm hn;have wV:=hx x (jj ..);have e0:rd (x::l) 0=x:=rfl;have e1:aB (x::l) 1 ((x::l).length:Int)=l:=by unfold aB;simp
   rw[kz.l0,ag aX,ag aX,e0,e1];refine(Yl h U U wV.1 x.Cell).bind' λv hv=>?_
   obtain⟨h1,h2,h3⟩:=hv;simp only;rcases h3 with⟨a,b,c,d,e⟩ |⟨a,b,c⟩
   ·rw[a];refine Ok.pos J (Ok.cz bf ((ih k v.2 l (n+1) U U h2 U (λy hy=>hx y (j6 _ hy))).mono λq hq=>?_));obtain⟨q1,q2,q3⟩:=hq;obtain⟨n',f1,f2⟩:=q3.ring;obtain⟨A,g1,g2⟩:=q3.YV;refine⟨q1,q2,⟨⟨n',f1,by simp only[kU];omega⟩,λk i hh=>q3.rU k i ((e k i).2 (.inl hh)),λk i hh=>?_,⟨x::A,by rw[g1];rfl,λy hy=>?_⟩,?_,by rw[q3.at_,h1],q3.end_⟩⟩
    ·rcases q3.new k i hh with z |⟨y,hy,z⟩
     ·rcases(e k i).1 z with z |⟨rfl,rfl⟩
      ·exact .inl z
      ·exact .inr ⟨x,jj ..,J,J⟩
     ·exact .inr ⟨y,j6 _ hy,z⟩
    ·rcases List.mem_cons.1 hy with rfl |hy
     ·exact q3.rU _ _ ((e _ _).2 (.inr ⟨J,J⟩))
     ·exact g2 y hy
    ·have:=q3.len_;simp only[kU];omega
   ·rw[a];refine Ok.neg aX (Ok.pure ⟨J,J,?_⟩);simp only;rw[c];exact⟨⟨n,h,by simp⟩,λ_ _ q=>q,λ_ _ q=> .inl q,⟨[],J,by simp⟩,dU _,J,λy l' hy=>by simp only[List.cons.injEq] at hy;rw[<-hy.1];exact b⟩
theorem adb (s:dw) {n:Nat} (h:iV s.wait n) (hn:n+s.todo.length<=2000000) (hx: ∀x∈s.todo,0<=x.Key/\x.Key<=1073741824):
 Ok (kz.f s) (λq=>q.t=s.t/\q.aR=s.aR/\ ∃r,((r=s.wait/\(s.wait.len≠0∨s.todo=[]))∨(s.wait.len=0/\r.len=0/\ ∃x l,s.todo=x::l/\r.bc=if x.Key<s.wait.bc then s.wait.bc else x.Key))/\(∀k i,Has r k i↔Has s.wait k i)/\JK r s.todo n q.wait q.todo):=by
 unfold kz.f;have key: ∀r,iV r n->Ok (kz.l0 fuel s r s.todo) (λq=>q.t=s.t/\q.aR=s.aR/\JK r s.todo n q.wait q.todo):=λr hr=>ade s s.todo.length fuel r s.todo n (l7 _) (by rw[cI];omega) hr hn hx
 by_cases hl:s.todo=[]
 ·rw[ah (by simp[hl])]
  exact Ok.eq J ((key s.wait h).mono λq hq=>⟨hq.1,hq.2.1,s.wait,.inl ⟨J,.inr hl⟩,λ_ _=>Iff.rfl,hq.2.2⟩)
 ·obtain⟨x,l,e⟩:=List.exists_cons_of_ne_nil hl;have wV:=hx x (by rw[e];exact jj ..)
  rw[ag (by rw[e];simp)]
  unfold xk.f
  by_cases z:s.wait.len=0
  ·have e0:rd s.todo 0=x:=by rw[e];rfl
   rw[show((some s.wait.len).bind λv5=>some (v5==0))=some true by simp[z]]
   simp only[aD,if_true,e0];rw[ag (by rw[e];simp)]
   refine((agG h wV.1 U z).bind λv hv=>Ok.pure (P:=λr=>iV r n/\r.len=0/\r.bc=if x.Key<s.wait.bc then s.wait.bc else x.Key) hv).bind λr hr=>(key r hr.1).mono λq hq=>⟨hq.1,hq.2.1,r,.inr ⟨z,hr.2.1,x,l,e,hr.2.2⟩,λk i=>⟨λy=>absurd y (hr.1.none hr.2.1 k i),λy=>absurd y (h.none z k i)⟩,hq.2.2⟩
  ·simp only[aD];rw[ah (by simpa using z)]
   exact Ok.eq J ((key s.wait h).mono λq hq=>⟨hq.1,hq.2.1,s.wait,.inl ⟨J,.inl z⟩,λ_ _=>Iff.rfl,hq.2.2⟩)
def ei (t:aJ) (c s:Int):Int:=
 if s=0 then(if c/t.W>0 then c-t.W else-1) else if s=1 then(if c%t.W<t.W-1 then c+1 else-1) else if s=2 then(if c/t.W<t.H-1 then c+t.W else-1) else if c%t.W>0 then c-1 else-1
theorem Mz {t:aJ} (h:sN t) {c s:Int} (c0:0<=c) (c1:c<t.C.length):ei t c s= -1∨(0<=ei t c s/\ei t c s<t.C.length):=by
 obtain⟨a,b,d,e,f,_⟩:=h;rw[f] at c1⊢;have HG:=u_ c t.W;have hm:=Int.emod_nonneg c (show t.W≠0 by omega)
 have yq:=A9 c (show 0<t.W by omega)
 have hq:0<=c/t.W:=Int.ediv_nonneg c0 U;have HU:c/t.W<t.H:=Int.ediv_lt_of_lt_mul U (by rw[mW];exact c1)
 unfold ei;split
 ·split
  ·have:t.W*1<=t.W*(c/t.W):=Int.mul_le_mul_of_nonneg_left U U;exact .inr U
  ·exact .inl J
 ·split
  ·split
   ·have:t.W*(c/t.W)<=t.W*(t.H-1):=Int.mul_le_mul_of_nonneg_left U U;rw[Int.mul_sub,Int.mul_one] at this;exact .inr U
   ·exact .inl J
  ·split
   ·split
    ·have:t.W*(c/t.W)<=t.W*(t.H-1-1):=Int.mul_le_mul_of_nonneg_left U U;rw[Int.mul_sub,Int.mul_sub,Int.mul_one] at this;exact .inr U
    ·exact .inl J
   ·split
    ·have:0<=t.W*(c/t.W):=Int.mul_nonneg U hq;exact .inr U
    ·exact .inl J
abbrev cx:Int:=1099511627776
structure Ar (s:dw) (n:Nat) (key c:Int) (j:Nat) (q:dw):Prop where
 t_:q.t=s.t
 td:q.todo=s.todo
 ds:q.aR=s.aR
 ring:iV q.wait (n+j)
 at_:q.wait.bc=s.wait.bc
 len_:q.wait.len<=s.wait.len+j
 rU: ∀k i,Has s.wait k i->Has q.wait k i
 new: ∀k i,Has q.wait k i->Has s.wait k i∨(k=key/\ ∃d:Int,0<=d/\d<j/\i=ei s.t c d/\0<=i/\i<s.t.C.length/\rd s.t.C i≠255/\rd s.aR i=cx)
 all:s.wait.bc<=key->key<s.wait.bc+256-> ∀d:Int,0<=d->d<j->0<=ei s.t c d->rd s.t.C (ei s.t c d)≠255->rd s.aR (ei s.t c d)=cx->Has q.wait key (ei s.t c d)
section
variable {s q : dw} {n : Nat} {key c : Int} {j : Nat}
theorem J9 (h:Ar s n key c j q) (hn:n+j+1<=1000000000) (hj:ei s.t c j= -1):Ar s n key c (j+1) q:=by
 refine⟨h.t_,h.td,h.ds,h.ring.mono U U,h.at_,by have:=h.len_;omega,h.rU,λk i hh=>?_,λa b d d0 d1 d2 d3 d4=>?_⟩
 ·rcases h.new k i hh with z |⟨z,d,a,b,r⟩
  ·exact .inl z
  ·exact .inr ⟨z,d,a,by omega,r⟩
 ·by_cases z:d=j
  ·subst z;omega
  ·exact h.all a b d d0 U d2 d3 d4
theorem J8 (ht:mX s.t) (hd:s.aR.length=s.t.C.length) (h:Ar s n key c j q) (hn:n+j+1<=1000000000) (k0:0<=key) (k1:key<=8796093022208) (c0:0<=c) (c1:c<s.t.C.length) {p:Int} (hj:ei s.t c j=p) (hp:p≠ -1):
 Ok (lA.f q p key) (Ar s n key c (j+1)):=by
 have bZ:=Mz ht.1 (s:=j) c0 c1;rw[hj] at bZ;have bZ:0<=p/\p<s.t.C.length:=bZ.resolve_left hp;unfold lA.f;rw[h.t_,h.ds,h.td];have e:(if(0<=p/\p<(aa s.t.C:Int)) then(if((rd s.t.C p)!=255)=true then(if(0<=p/\p<(aa s.aR:Int)) then(some ((rd s.aR p)==1099511627776)) else none) else(some false)) else none)=some (decide (rd s.t.C p≠255/\rd s.aR p=cx)):=by
  rw[ag bZ,ag (c:=0<=p/\p<(aa s.aR:Int)) U]
  by_cases z:rd s.t.C p=255
  ·simp[z]
  ·rw[ag (by simpa using z)];congr 1;rw[qC];simp[z]
 refine Ok.eq e (Ok.ite (λz=>?_) λz=>Ok.pure ?_)
 ·have z:=of_decide_eq_true z;refine(Yl h.ring U k1 k0 p).bind λv hv=>Ok.pure ?_
  obtain⟨a1,a2,a3⟩:=hv;rcases a3 with⟨b1,b2,b3,b4,b5⟩ |⟨b1,b2,b3⟩
  ·refine⟨J,J,J,a2,by rw[a1,h.at_],by have:=h.len_;simp only;omega,λk i hh=>(b5 k i).2 (.inl (h.rU k i hh)),λk i hh=>?_,λa b d d0 d1 d2 d3 d4=>?_⟩
   ·rcases(b5 k i).1 hh with y |⟨rfl,rfl⟩
    ·rcases h.new k i y with y |⟨y,d,a,b,r⟩
     ·exact .inl y
     ·exact .inr ⟨y,d,a,by omega,r⟩
    ·exact .inr ⟨J,j,by omega,by omega,hj.symm,bZ.1,bZ.2,z⟩
   ·by_cases y:d=j
    ·subst y;rw[hj];exact(b5 _ _).2 (.inr ⟨rfl,rfl⟩)
    ·exact(b5 _ _).2 (.inl (h.all a b d d0 U d2 d3 d4))
  ·refine⟨J,J,J,a2,by rw[a1,h.at_],by have:=h.len_;simp only;rw[b3];omega,λk i hh=>by simp only;rw[b3];exact h.rU k i hh,λk i hh=>?_,λa b=>?_⟩
   ·simp only at hh;rw[b3] at hh;rcases h.new k i hh with y |⟨y,d,a,b,r⟩
    ·exact .inl y
    ·exact .inr ⟨y,d,a,by omega,r⟩
   ·have:=h.at_;omega
 ·have z: ¬(rd s.t.C p≠255/\rd s.aR p=cx):=by simpa using z
  refine⟨h.t_,h.td,h.ds,h.ring.mono U U,h.at_,by have:=h.len_;omega,h.rU,λk i hh=>?_,λa b d d0 d1 d2 d3 d4=>?_⟩
  ·rcases h.new k i hh with y |⟨y,d,a,b,r⟩
   ·exact .inl y
   ·exact .inr ⟨y,d,a,by omega,r⟩
  ·by_cases y:d=j
   ·subst y;rw[hj] at d3 d4;exact absurd ⟨d3,d4⟩ z
   ·exact h.all a b d d0 U d2 d3 d4
end
theorem J7 {q s:dw} (e:q.t=s.t):dw.mk (aJ.mk q.t.W q.t.H s.t.C) q.wait q.todo q.aR=q:=by
 obtain⟨t,a,b,d⟩:=q;simp only at e;subst e;rfl
theorem aaw (s:dw) (ht:mX s.t) (hd:s.aR.length=s.t.C.length) {n:Nat} (h:iV s.wait n) (hn:n+4<=1000000000) {c:Int} (c0:0<=c) (c1:c<s.t.C.length) (d0:0<=rd s.aR c) (d1:rd s.aR c<=2000000000):
 Ok (y_.f s c) (Ar s n (rd s.aR c+rd s.t.C c) c 4):=by
 have hC:=ht.2 c c0 c1;have hl:=pd ht.1;obtain⟨a1,a2,a3,a4,a5,_⟩:=ht.1;have hq:0<=c/s.t.W/\c/s.t.W<=c:=⟨Int.ediv_nonneg c0 U,Int.ediv_le_self _ c0⟩;unfold y_.f;rw[wi (x:=rd s.t.C c) U U,wi (x:=rd s.aR c+rd s.t.C c) U U,qz c0,nF c0,wi (x:=c/s.t.W) U U,wi (x:=c-s.t.W) U U,wi (x:=c+1) U U,wi (x:=c-1) U U];generalize hk:rd s.aR c+rd s.t.C c=key;have k0:0<=key:=U;have k1:key<=8796093022208:=U;have A0:Ar s n key c 0 s:=⟨J,J,J,h,J,by omega,λ_ _ z=>z,λ_ _ z=> .inl z,λ_ _ d d0 d1=>by omega⟩
 refine Ok.cz U (Ok.cz U (Ok.cz U (Ok.cz U ?_)));have n0:ei s.t c (0:Nat)=if c/s.t.W>0 then c-s.t.W else-1:=rfl
 have n1:ei s.t c (1:Nat)=if c%s.t.W<s.t.W-1 then c+1 else-1:=rfl
 have n2:ei s.t c (2:Nat)=if c/s.t.W<s.t.H-1 then c+s.t.W else-1:=rfl
 have n3:ei s.t c (3:Nat)=if c%s.t.W>0 then c-1 else-1:=rfl
 have HG:=u_ c s.t.W;have s0:Ok (if c/s.t.W>0 then(lA.f s (c-s.t.W) key).bind λv7=>some (v7.t.W,v7.t.H,v7.wait,v7.todo,v7.aR) else some (s.t.W,s.t.H,s.wait,s.todo,s.aR)) (λp=>Ar s n key c 1 ⟨⟨p.1,p.2.1,s.t.C⟩,p.2.2.1,p.2.2.2.1,p.2.2.2.2⟩):=by
  refine Ok.ite (λz=>?_) λz=>Ok.pure (J9 (j:=0) A0 U (by rw[n0,ah z]))
  have bZ:=Mz ht.1 (s:=(0:Nat)) c0 c1;rw[n0,ag z] at bZ;refine(J8 (j:=0) ht hd A0 U k0 k1 c0 c1 (by rw[n0,ag z]) (λy=>?_)).bind λv hv=>Ok.pure ?_
  ·have:s.t.W*1<=s.t.W*(c/s.t.W):=Int.mul_le_mul_of_nonneg_left U U;have:=Int.emod_nonneg c (show s.t.W≠0 by omega)
   omega
  ·simp only;rw[J7 hv.t_];exact hv
 refine s0.bind λp hp=>?_
 obtain⟨x1,x2,x3,x4,x5⟩:=p;simp only at hp⊢;have et:=hp.t_;simp only at et;have e1:x1=s.t.W:=by rw[<-et]
 have e2:x2=s.t.H:=by rw[<-et]
 subst e1;subst e2;rw[wi (x:=s.t.W-1) U U];have s1:Ok (if c%s.t.W<s.t.W-1 then(lA.f (dw.mk (aJ.mk s.t.W s.t.H s.t.C) x3 x4 x5) (c+1) key).bind λeN=>some (eN.t.W,eN.t.H,eN.wait,eN.todo,eN.aR) else some (s.t.W,s.t.H,x3,x4,x5)) (λp=>Ar s n key c 2 ⟨⟨p.1,p.2.1,s.t.C⟩,p.2.2.1,p.2.2.2.1,p.2.2.2.2⟩):=by
  refine Ok.ite (λz=>?_) λz=>Ok.pure (J9 (j:=1) hp U (by rw[n1,ah z]))
  refine(J8 (j:=1) ht hd hp U k0 k1 c0 c1 (by rw[n1,ag z]) U).bind λv hv=>Ok.pure ?_
  simp only;rw[J7 hv.t_];exact hv
 refine s1.bind λp hp=>?_
 obtain⟨x1,x2,x3,x4,x5⟩:=p;simp only at hp⊢;have et:=hp.t_;simp only at et;have e1:x1=s.t.W:=by rw[<-et]
 have e2:x2=s.t.H:=by rw[<-et]
 subst e1;subst e2;rw[wi (x:=s.t.H-1) U U];have s3: ∀v:dw,Ar s n key c 3 v->Ok (if c%s.t.W>0 then(lA.f v (c-1) key).bind λcP=>some (dw.mk (aJ.mk cP.t.W cP.t.H s.t.C) cP.wait cP.todo cP.aR) else some v) (Ar s n key c 4):=λv hv=>by
  refine Ok.ite (λz=>?_) λz=>Ok.pure (J9 (j:=3) hv U (by rw[n3,ah z]))
  refine(J8 (j:=3) ht hd hv U k0 k1 c0 c1 (by rw[n3,ag z]) (λy=>?_)).bind λv hv=>Ok.pure ?_
  ·have:c=0:=U;subst this;simp at z
  ·rw[J7 hv.t_];exact hv
 refine Ok.ite (λz=>?_) λz=>?_
 ·rw[wi (x:=c+s.t.W) U U];refine(J8 (j:=2) ht hd hp U k0 k1 c0 c1 (by rw[n2,ag z]) U).bind λv hv=>?_
  rw[J7 hv.t_];exact s3 v hv
 ·exact s3 _ (J9 (j:=2) hp U (by rw[n2,ah z]))
def Gn (t:aJ) (l:List a_) (D:List Int) (i k:Int):Prop:=
 (∃x∈l,x.Cell=i/\x.Key=k)∨ ∃c d:Int,0<=c/\c<t.C.length/\0<=d/\d<=3/\rd D c≠cx/\ei t c d=i/\rd D c+rd t.C c=k
def vO (t:aJ) (D:List Int):Nat:=fg (λc=>rd D c==cx) t.C.length
structure Cy (t:aJ) (l:List a_) (K:Int) (r:fa) (todo:List a_) (D:List Int) (n:Nat):Prop where
 ring:iV r n
 room:n+todo.length+4*vO t D<=2000000
 dl:D.length=t.C.length
 dv: ∀c:Int,0<=c->c<t.C.length->rd D c≠cx->0<=rd D c/\rd D c<=r.bc/\rd D c+254*(vO t D:Int)<=K/\rd t.C c≠255/\Gn t l D c (rd D c)
 hs: ∀k i,Has r k i->0<=i/\i<t.C.length/\rd t.C i≠255/\k+254*(vO t D:Int)<=K/\Gn t l D i k
 nb: ∀c d:Int,0<=c->c<t.C.length->rd D c≠cx->0<=d->d<=3->0<=ei t c d->rd t.C (ei t c d)≠255->(rd D (ei t c d)≠cx/\rd D (ei t c d)<=rd D c+rd t.C c)∨Has r (rd D c+rd t.C c) (ei t c d)
 sd: ∀x∈l,x∈todo∨Has r x.Key x.Cell∨(rd D x.Cell≠cx/\rd D x.Cell<=x.Key)
 td: ∀x∈todo,x∈l/\r.bc<=x.Key
 so:todo.Pairwise (λa b=>a.Key<=b.Key)
def Full (r:fa) (todo:List a_):Prop:=todo=[]∨(r.len≠0/\ ∀x∈todo,r.bc+256<=x.Key)
section
variable {t : aJ} {l : List a_} {K : Int}
theorem QL (hl: ∀x∈l,rD t x/\x.Key+254*256<=K) (ht:mX t) (s:dw) (hs:s.t=t) {n:Nat} (h:Cy t l K s.wait s.todo s.aR n):
 Ok (kz.f s) (λq=>q.t=t/\q.aR=s.aR/\q.wait.len+2*q.todo.length<=s.wait.len+2*s.todo.length/\Full q.wait q.todo/\ ∃n',Cy t l K q.wait q.todo s.aR n'):=by
 have hk: ∀x∈s.todo,0<=x.Key/\x.Key<=1073741824:=λx hx=>by have:=(hl x (h.td x hx).1).1;exact⟨this.2.2.2.1,this.2.2.2.2.1⟩
 have hu:vO t s.aR<=256:=by unfold vO;have:=ES (λc=>rd s.aR c==cx) t.C.length;have:=pd ht.1;omega
 refine(adb s h.ring (by have:=h.room;omega) hk).mono λq hq=>?_
 obtain⟨q1,q2,r,q3,q4,q5⟩:=hq;obtain⟨n',f1,f2⟩:=q5.ring;obtain⟨A,g1,g2⟩:=q5.YV;have um:s.wait.bc<=r.bc/\(∀x∈s.todo,r.bc<=x.Key)/\r.len=s.wait.len:=by
  rcases q3 with⟨rfl,_⟩ |⟨z0,z,x,m,e,e2⟩
  ·exact⟨dU _,λx hx=>(h.td x hx).2,J⟩
  ·have hx:=(h.td x (by rw[e];exact jj ..)).2
   rw[ah U] at e2;refine⟨by omega,λy hy=>?_,by omega⟩
   have so:=h.so;rw[e] at hy so;rcases List.mem_cons.1 hy with rfl |hy
   ·omega
   ·have:=(List.pairwise_cons.1 so).1 y hy;omega
 have af4:Full q.wait q.todo:=by
  cases Lr:q.todo with
  |nil=>exact .inl J
  |cons y m=>
   have hy:=q5.end_ y m Lr;have PN:y∈s.todo:=by rw[g1,Lr];simp
   have:=um.2.1 y PN;have ha:=q5.at_;refine .inr ⟨λz0=>?_,λx hx=>?_⟩
   ·have gY:=f1.none z0;rcases q3 with⟨rfl,z |z⟩ |⟨_,z,x,m',e,e2⟩
    ·obtain⟨k,i,hh⟩:=h.ring.some z;exact gY k i (q5.rU k i hh)
    ·rw[z] at PN;simp at PN
    ·rw[ah (by have:=(h.td x (by rw[e];exact jj ..)).2;omega)] at e2
     cases A with
     |nil=>
      rw[List.nil_append,Lr] at g1;rw[e] at g1;simp only[List.cons.injEq] at g1;rw[<-g1.1] at hy;omega
     |cons a A=>exact gY _ _ (g2 a (jj ..))
   ·have so:=h.so;rw[g1,Lr] at so;have so:=(List.pairwise_append.1 so).2.1;rcases List.mem_cons.1 hx with rfl |hx
    ·omega
    ·have:=(List.pairwise_cons.1 so).1 x hx;omega
 refine⟨q1.trans hs,q2,by have:=q5.len_;omega,af4,n',⟨f1,by have:=h.room;omega,h.dl,λc c0 c1 hc=>?_,λk i hh=>?_,λc d c0 c1 hc d0 d3 p0 p1=>?_,λx hx=>?_,λx hx=>?_,?_⟩⟩
 ·obtain⟨a,b,c,d⟩:=h.dv c c0 c1 hc;exact⟨a,by rw[q5.at_];omega,c,d⟩
 ·rcases q5.new k i hh with z |⟨x,hx,rfl,rfl⟩
  ·exact h.hs k i ((q4 k i).1 z)
  ·have qR:=(h.td x hx).1;obtain⟨⟨a,b,c,d⟩,e⟩:=hl x qR;exact⟨a,b,c,by omega,.inl ⟨x,qR,J,J⟩⟩
 ·rcases h.nb c d c0 c1 hc d0 d3 p0 p1 with z |z
  ·exact .inl z
  ·exact .inr (q5.rU _ _ ((q4 _ _).2 z))
 ·rcases h.sd x hx with z |z |z
  ·rw[g1] at z;rcases List.mem_append.1 z with z |z
   ·exact .inr (.inl (g2 x z))
   ·exact .inl z
  ·exact .inr (.inl (q5.rU _ _ ((q4 _ _).2 z)))
  ·exact .inr (.inr z)
 ·have qR:x∈s.todo:=by rw[g1];exact EF _ hx
  exact⟨(h.td x qR).1,by rw[q5.at_];exact um.2.1 x qR⟩
 ·have so:=h.so;rw[g1] at so;exact(List.pairwise_append.1 so).2.1
theorem Qt {D D':List Int} (h: ∀c:Int,0<=c->c<t.C.length->rd D c≠cx->rd D' c=rd D c) {i k:Int} (hp:Gn t l D i k):Gn t l D' i k:=by
 rcases hp with z |⟨c,d,c0,c1,d0,d3,e,f,g⟩
 ·exact .inl z
 ·have:=h c c0 c1 e;exact .inr ⟨c,d,c0,c1,d0,d3,by rw[this];exact e,f,by rw[this];exact g⟩
structure po (t:aJ) (l:List a_) (K:Int) (D:List Int):Prop where
 dl:D.length=t.C.length
 dv: ∀c:Int,0<=c->c<t.C.length->rd D c≠cx->0<=rd D c/\rd D c<=K/\rd t.C c≠255/\Gn t l D c (rd D c)
 nb: ∀c d:Int,0<=c->c<t.C.length->rd D c≠cx->0<=d->d<=3->0<=ei t c d->rd t.C (ei t c d)≠255->rd D (ei t c d)≠cx/\rd D (ei t c d)<=rd D c+rd t.C c
 sd: ∀x∈l,rd D x.Cell≠cx/\rd D x.Cell<=x.Key
theorem ajr (hl: ∀x∈l,rD t x/\x.Key+254*256<=K) (hK:K<=1100000000) (ht:mX t) (s:dw) (hs:s.t=t): ∀(m k:Nat) (r:fa) (todo:List a_) (D:List Int) (n:Nat),(5*vO t D+2*todo.length+r.len).toNat<=m->m<k->Cy t l K r todo D n->Full r todo->
 Ok (pc.l0 k s t.W t.H r todo D) (λq=>po t l K q.aR):=by
 have nU:=pd ht.1;have hI:cx=1099511627776:=rfl;have fin: ∀(k:Nat) (r:fa) (todo:List a_) (D:List Int) (n:Nat),Cy t l K r todo D n->Full r todo->r.len=0->Ok (pc.l0 (k+1) s t.W t.H r todo D) (λq=>po t l K q.aR):=by
  intro k r todo D n h hf h0;rw[pc.l0];refine Ok.eq (v:=r.len) J (Ok.neg U (Ok.pure ?_));have gY:=h.ring.none h0;have Lu:todo=[]:=hf.resolve_right λz=>z.1 h0
  refine⟨h.dl,λc c0 c1 hc=>?_,λc d c0 c1 hc d0 d3 p0 p1=>?_,λx hx=>?_⟩
  ·obtain⟨a1,a2,a3,a4⟩:=h.dv c c0 c1 hc;exact⟨a1,by show rd D c<=K;omega,a4⟩
  ·exact(h.nb c d c0 c1 hc d0 d3 p0 p1).resolve_right (gY _ _)
  ·rcases h.sd x hx with z |z |z
   ·rw[Lu] at z;simp at z
   ·exact absurd z (gY _ _)
   ·exact z
 intro m
 induction m with
 |zero=>
  intro k r todo D n hm hk h hf;obtain⟨k,rfl⟩:=bl hk;have:=h.ring.DB;exact fin k r todo D n h hf U
 |succ m ih=>
  intro k r todo D n hm hk h hf;obtain⟨k,rfl⟩:=bl hk;have hlen:=h.ring.DB
  by_cases h0:r.len=0
  ·exact fin k r todo D n h hf h0
  obtain⟨x,y,Ie⟩:=h.ring.some h0;rw[pc.l0];refine Ok.eq (v:=r.len) J (Ok.pos U ((ajk h.ring (by have:=(h.hs x y Ie).2.2.2.1;omega) Ie).bind λv hv=>?_))
  obtain⟨v1,v2,v3,v4,v5,v6,v7,v8⟩:=hv;obtain⟨i0,i1,i2,i3,i4⟩:=h.hs _ _ v5;have um:=v5.1;have als:=v5.2.1;have Lu: ∀x∈todo,v.1<=x.Key:=λx hx=>by
   rcases hf with z |⟨_,z⟩
   ·rw[z] at hx;simp at hx
   ·have:=z x hx;omega
  refine Ok.cz (by rw[h.dl];exact⟨i0,i1⟩) (Ok.ite (λq=>?_) λq=>?_)
  ·have q:rd D v.2.1=cx:=by simpa using q
   have hi:=ht.2 _ i0 i1;have eD: ∀c:Int,0<=c->rd (aG D v.2.1.toNat v.1) c=if c=v.2.1 then v.1 else rd D c:=λc c0=>lR i0 (by rw[h.dl];exact i1) c0
   have Ad:0<=v.1:=by have:=h.ring.at_;omega
   have hu:vO t D=vO t (aG D v.2.1.toNat v.1)+1:=by
    unfold vO;refine NP (c:=v.2.1) i0 i1 (by simp[q]) ?_ λi a b hi=>?_
    ·rw[eD _ i0,ag J];simp;omega
    ·rw[eD _ a,ah hi]
   have hold: ∀c:Int,0<=c->c<t.C.length->rd D c≠cx->rd (aG D v.2.1.toNat v.1) c=rd D c:=λc c0 c1 hc=>by
    rw[eD c c0,ah (λz=>hc (by rw[z];exact q))]
   have e:(dw.mk (aJ.mk t.W t.H s.t.C) v.2.2.2 todo (aG D (ax v.2.1) v.1))=dw.mk t v.2.2.2 todo (aG D (ax v.2.1) v.1):=by rw[hs]
   rw[e];have hr:=h.room;refine(aaw (dw.mk t v.2.2.2 todo (aG D (ax v.2.1) v.1)) ht (by simp[h.dl]) v2 U i0 i1 (by simp only;rw[eD _ i0,ag J];exact Ad) (by simp only;rw[eD _ i0,ag J];omega)).bind λa ha=>?_
   have wH:rd (aG D v.2.1.toNat v.1) v.2.1=v.1:=by rw[eD _ i0,ag J]
   have Nf:=ha.td;have M9:=ha.ds;have Nd:=ha.t_;have aaa:=ha.len_;have M7:=ha.at_;simp only at Nf M9 Nd aaa M7;have aC:a.t.C=s.t.C:=by rw[Nd,hs]
   have ea:dw.mk (aJ.mk a.t.W a.t.H s.t.C) a.wait a.todo a.aR=a:=by rw[<-aC]
   rw[ea];have oL:Cy t l K a.wait a.todo a.aR (n+4):=by
    rw[Nf,M9];refine⟨ha.ring,by omega,by simp[h.dl],λc c0 c1 hc=>?_,λk i hh=>?_,λc d c0 c1 hc d0 d3 p0 p1=>?_,λx hx=>?_,λx hx=>⟨(h.td x hx).1,by rw[M7,v3];exact Lu x hx⟩,h.so⟩
    ·rw[M7,v3]
     by_cases z:c=v.2.1
     ·subst z;rw[wH];exact⟨Ad,dU _,by omega,i2,Qt hold i4⟩
     ·rw[eD c c0,ah z] at hc⊢;obtain⟨b1,b2,b3,b4,b5⟩:=h.dv c c0 c1 hc;exact⟨b1,by omega,by omega,b4,Qt hold b5⟩
    ·rcases ha.new k i hh with z |⟨rfl,d,d0,d4,rfl,w0,w1,w2,w3⟩
     ·obtain⟨b1,b2,b3,b4,b5⟩:=h.hs k i (v7 k i z);exact⟨b1,b2,b3,by omega,Qt hold b5⟩
     ·simp only at w0 w1 w2 wH⊢;rw[wH];exact⟨w0,w1,w2,by omega,.inr ⟨v.2.1,d,i0,i1,d0,by omega,by rw[wH];omega,J,by rw[wH]⟩⟩
    ·have hn:0<=ei t c d/\ei t c d<t.C.length:=(Mz ht.1 c0 c1).resolve_left U
     by_cases z:c=v.2.1
     ·subst z;rw[wH]
      by_cases w:rd (aG D v.2.1.toNat v.1) (ei t v.2.1 d)=cx
      ·refine .inr ?_;have:=ha.all (by simp only;rw[wH,v3];omega) (by simp only;rw[wH,v3];omega) d d0 U p0 p1 w
       simp only at this;rw[wH] at this;exact this
      ·refine .inl ⟨w,?_⟩;rw[eD _ hn.1] at w⊢;split
       ·omega
       ·rename_i y;rw[ah y] at w;have:=(h.dv _ hn.1 hn.2 w).2.1;omega
     ·rw[eD c c0,ah z] at hc⊢;rcases h.nb c d c0 c1 hc d0 d3 p0 p1 with⟨w1,w2⟩ |w
      ·exact .inl (by rw[hold _ hn.1 hn.2 w1];exact⟨w1,w2⟩)
      ·rcases v8 _ _ w with⟨y1,y2⟩ |y
       ·refine .inl ?_;rw[y2,wH];exact⟨by omega,by omega⟩
       ·exact .inr (ha.rU _ _ y)
    ·have Wi:=(hl x hx).1;rcases h.sd x hx with z |z |⟨z1,z2⟩
     ·exact .inl z
     ·rcases v8 _ _ z with⟨y1,y2⟩ |y
      ·exact .inr (.inr (by rw[y2,wH];exact⟨by omega,by omega⟩))
      ·exact .inr (.inl (ha.rU _ _ y))
     ·exact .inr (.inr (by rw[hold _ Wi.1 Wi.2.1 z1];exact⟨z1,z2⟩))
   refine(QL hl ht a Nd oL).bind λw hw=>?_
   obtain⟨w1,w2,w3,w4,n',w5⟩:=hw;rw[w1,w2];refine ih k w.wait w.todo a.aR n' ?_ U w5 w4;rw[M9] at*;rw[Nf] at w3;omega
  ·have q:rd D v.2.1≠cx:=by simpa using q
   have hd:=(h.dv _ i0 i1 q).2.1;have oL:Cy t l K v.2.2.2 todo D n:=by
    refine⟨v2,h.room,h.dl,λc c0 c1 hc=>?_,λk i hh=>h.hs k i (v7 k i hh),λc d c0 c1 hc d0 d3 p0 p1=>?_,λx hx=>?_,λx hx=>⟨(h.td x hx).1,by rw[v3];exact Lu x hx⟩,h.so⟩
    ·obtain⟨b1,b2,b3⟩:=h.dv c c0 c1 hc;exact⟨b1,by omega,b3⟩
    ·rcases h.nb c d c0 c1 hc d0 d3 p0 p1 with w |w
     ·exact .inl w
     ·rcases v8 _ _ w with⟨y1,y2⟩ |y
      ·exact .inl (by rw[y2];exact⟨q,by omega⟩)
      ·exact .inr y
    ·rcases h.sd x hx with z |z |z
     ·exact .inl z
     ·rcases v8 _ _ z with⟨y1,y2⟩ |y
      ·exact .inr (.inr (by rw[y2];exact⟨q,by omega⟩))
      ·exact .inr (.inl y)
     ·exact .inr (.inr z)
   have e:(dw.mk (aJ.mk t.W t.H s.t.C) v.2.2.2 todo D)=dw.mk t v.2.2.2 todo D:=by rw[hs]
   rw[e];refine(QL hl ht (dw.mk t v.2.2.2 todo D) J oL).bind λw hw=>?_
   obtain⟨w1,w2,w3,w4,n',w5⟩:=hw;rw[w1,w2];exact ih k w.wait w.todo D n' (by simp only at w3;omega) U w5 w4
theorem YP (ht:mX t) (hb:l.length<=1000000) (hK:K<=1100000000) (hl: ∀x∈l,rD t x/\x.Key+254*256<=K):Ok (uV.f t l) (λr=>r.2=0/\po t l K r.1):=by
 have nU:=pd ht.1;unfold uV.f;refine(YK ht l hb).bind λb jR=>?_
 have:b=true:=jR.2 λx hx=>(hl x hx).1;subst this;refine Ok.neg aX ?_;obtain⟨r,e1,e2,e3,e4⟩:=ajd;refine Ok.bind (P:=λp=> ∃S:List a_,p=(t.W,t.H,t.C,r,S,cy t.C.length cx)/\S.length<=l.length/\(∀e,e∈S↔e∈l)/\S.Pairwise (λa b=> ¬uJ b a)) (Ok.eq e1 ((Q4 l hb).bind λS hS=>Ok.eq (Yj U U) (Ok.pure ⟨S,J,hS⟩))) λp hp=>?_
 obtain⟨S,rfl,s1,s2,s3⟩:=hp;simp only;have z_: ∀x∈S,rD t x/\x.Key+254*256<=K:=λx hx=>hl x ((s2 x).1 hx);have HY: ∀c:Int,0<=c->c<t.C.length->rd (cy t.C.length cx) c=cx:=λc c0 c1=>uC c0 U
 have hu:vO t (cy t.C.length cx)<=256:=by unfold vO;have:=ES (λc=>rd (cy t.C.length cx) c==cx) t.C.length;omega
 have oL:Cy t S K r S (cy t.C.length cx) 0:=by
  refine⟨e3,by omega,by simp,λc c0 c1 hc=>absurd (HY c c0 c1) hc,λk i hh=>absurd hh (e4 k i),λc d c0 c1 hc=>absurd (HY c c0 c1) hc,λx hx=> .inl hx,λx hx=>⟨hx,by rw[e2];exact(z_ x hx).1.2.2.2.1⟩,s3.imp λ{a b} h=>?_⟩
  unfold uJ at h;omega
 unfold pc.f;refine Ok.bind (P:=λq=>po t l K q.aR) ?_ λq hq=>Ok.pure ⟨J,hq⟩
 refine(QL z_ ht ⟨t,r,S,cy t.C.length cx⟩ J oL).bind λw hw=>?_
 obtain⟨w1,w2,w3,w4,n',w5⟩:=hw;rw[w1,w2];have hlen:=e3.DB;have Bv:r.len=0:=jL λz=>by obtain⟨k,i,hh⟩:=e3.some z;exact e4 k i hh
 refine(ajr z_ hK ht ⟨⟨t.W,t.H,t.C⟩,r,S,cy t.C.length cx⟩ J 3000000 fuel w.wait w.todo _ n' (by show(5*vO t (cy t.C.length cx)+2*w.todo.length+w.wait.len).toNat<=3000000;have w3:w.wait.len+2*w.todo.length<=r.len+2*S.length:=w3;omega) (by rw[cI];omega) w5 w4).mono λq hq=>⟨hq.dl,λc c0 c1 hc=>?_,hq.nb,λx hx=>hq.sd x ((s2 x).2 hx)⟩
 obtain⟨b1,b2,b3,b4⟩:=hq.dv c c0 c1 hc;refine⟨b1,b2,b3,?_⟩;rcases b4 with⟨x,hx,z⟩ |z
 ·exact .inl ⟨x,(s2 x).1 hx,z⟩
 ·exact .inr z
theorem Q5 (ht:mX t) {K':Int} {D D':List Int} (h:po t l K D) (h':po t l K' D'): ∀(n:Nat) (c:Int),0<=c->c<t.C.length->rd D c≠cx->rd D c<=n->rd D' c≠cx/\rd D' c<=rd D c:=by
 intro n
 induction n with
 |zero=>
  intro c c0 c1 hc hn;obtain⟨a1,a2,a3,a4⟩:=h.dv c c0 c1 hc;rcases a4 with⟨x,hx,e1,e2⟩ |⟨q,d,q0,q1,d0,d3,e1,e2,e3⟩
  ·have:=h'.sd x hx;rw[e1] at this;exact⟨this.1,by omega⟩
  ·have:=(h.dv q q0 q1 e1).1;have:=ht.2 q q0 q1;omega
 |succ n ih=>
  intro c c0 c1 hc hn;obtain⟨a1,a2,a3,a4⟩:=h.dv c c0 c1 hc;rcases a4 with⟨x,hx,e1,e2⟩ |⟨q,d,q0,q1,d0,d3,e1,e2,e3⟩
  ·have:=h'.sd x hx;rw[e1] at this;exact⟨this.1,by omega⟩
  ·have hC:=ht.2 q q0 q1;obtain⟨b1,b2⟩:=ih q q0 q1 e1 U;have:=h'.nb q d q0 q1 b1 d0 d3 U (by rw[e2];exact a3)
   rw[e2] at this;exact⟨this.1,by omega⟩
theorem ake (ht:mX t) {K':Int} {D D':List Int} (h:po t l K D) (h':po t l K' D') {c:Int} (c0:0<=c) (c1:c<t.C.length):rd D c=rd D' c:=by
 by_cases z:rd D c=cx
 ·by_cases z':rd D' c=cx
  ·rw[z,z']
  ·exact absurd z (Q5 ht h' h (rd D' c).toNat c c0 c1 z' (by have:=(h'.dv c c0 c1 z').1;omega)).1
 ·have q:=Q5 ht h h' (rd D c).toNat c c0 c1 z (by have:=(h.dv c c0 c1 z).1;omega)
  have:=Q5 ht h' h (rd D' c).toNat c c0 c1 q.1 (by have:=(h'.dv c c0 c1 q.1).1;omega)
  omega
theorem akf (ht:mX t) {D:List Int} (h:po t l K D) {c:Int} (c0:0<=c) (c1:c<t.C.length) (hc:rd D c=0): ∃x∈l,x.Cell=c/\x.Key=0:=by
 have hI:cx=1099511627776:=rfl;obtain⟨a1,a2,a3,a4⟩:=h.dv c c0 c1 U;rcases a4 with⟨x,hx,e1,e2⟩ |⟨q,d,q0,q1,d0,d3,e1,e2,e3⟩
 ·exact⟨x,hx,e1,by omega⟩
 ·have:=(h.dv q q0 q1 e1).1;have:=ht.2 q q0 q1;omega
end
section
variable {t : aJ} {l : List a_} {K : Int} {D : List Int}
def wu (l:List a_) (c s:Int):Int:=(ly.f l c s).getD 0
theorem Sz (hb:l.length<=1000000) (c s:Int):ly.f l c s=some (wu l c s):=by
 obtain⟨r,e⟩:=abI l c s hb;unfold wu;rw[e];rfl
theorem ahP (ht:mX t) {c s:Int} (c0:0<=c) (c1:c<t.C.length) (s0:0<=s) (s3:s<=3):El.f ⟨t,l,D⟩ c s=some (ei t c s):=by
 have hl:=pd ht.1;obtain⟨a1,a2,a3,a4,a5,_⟩:=ht.1;have hq:0<=c/t.W/\c/t.W<=c:=⟨Int.ediv_nonneg c0 U,Int.ediv_le_self _ c0⟩;unfold El.f ei;simp only;rw[ag (show ¬t.W=0 by omega),ag (show ¬t.W=0 by omega),qz c0,nF c0,wi (x:=c/t.W) U U,wi (x:=t.W-1) U U,wi (x:=t.H-1) U U,wi (x:=c-t.W) U U,wi (x:=c+1) U U,wi (x:=c+t.W) U U,wi (x:=c-1) U U]
 have hs:s=0∨s=1∨s=2∨s=3:=U;rcases hs with rfl |rfl |rfl |rfl
 ·by_cases z:0<c/t.W<;>simp[z]
 ·by_cases z:c%t.W<t.W-1<;>simp[z]
 ·by_cases z:c/t.W<t.H-1<;>simp[z]
 ·by_cases z:0<c%t.W<;>simp[z]
def Bc (t:aJ) (l:List a_) (D:List Int) (c s:Int):Bool:=
 if ei t c s<0 then wu l c s==rd D c else decide (rd t.C (ei t c s)≠255/\rd t.C (ei t c s)+rd D (ei t c s)=rd D c)
theorem akg (hK:K<=1100000000) (h:po t l K D) {c:Int} (c0:0<=c) (c1:c<t.C.length):0<=rd D c/\rd D c<=1099511627776:=by
 have hI:cx=1099511627776:=rfl
 by_cases z:rd D c=cx
 ·omega
 ·have:=h.dv c c0 c1 z;omega
theorem Mm (ht:mX t) (hb:l.length<=1000000) (hK:K<=1100000000) (h:po t l K D) {c s:Int} (c0:0<=c) (c1:c<t.C.length) (s0:0<=s) (s3:s<=3):lz.f ⟨t,l,D⟩ c s=some (Bc t l D c s):=by
 have Da:=h.dl;unfold lz.f Bc;rw[ahP ht c0 c1 s0 s3];simp only[aD]
 by_cases z:ei t c s<0
 ·rw[ag z,ag z,Sz hb];simp only[aD];rw[ag U]
 ·have hn:=(Mz ht.1 (s:=s) c0 c1).resolve_left U;have hC:=ht.2 _ hn.1 hn.2;have hD:=akg hK h hn.1 hn.2;rw[ah z,ah z,ag hn]
  by_cases y:rd t.C (ei t c s)=255
  ·rw[ah (by simp[y])];simp[y]
  ·rw[ag (by simpa using y),ag U,ag U,wi (x:=rd t.C (ei t c s)) U U,wi U U]
   simp only[aD,Option.some.injEq];rw[qC];simp[y]
def Jd (t:aJ) (l:List a_) (D:List Int) (c:Int):Int:=
 if Bc t l D c 0=true then 0 else if Bc t l D c 1=true then 1 else if Bc t l D c 2=true then 2 else if Bc t l D c 3=true then 3 else 5
def ya (t:aJ) (l:List a_) (D:List Int) (c:Int):Int:=if rd D c=cx then 5 else if rd D c=wu l c 4 then 4 else Jd t l D c
theorem acS (c:Int):0<=ya t l D c/\ya t l D c<=5:=by
 unfold ya Jd
 repeat' split
 all_goals omega
theorem ajJ (ht:mX t) (hb:l.length<=1000000) (hK:K<=1100000000) (h:po t l K D) {c:Int} (c0:0<=c) (c1:c<t.C.length):Ek.f ⟨t,l,D⟩ c=some (ya t l D c):=by
 have Da:=h.dl;unfold Ek.f F2.f ya Jd;simp only[Mm ht hb hK h c0 c1 (dU 0) (by omega:(0:Int)<=3),Mm ht hb hK h c0 c1 (by omega:(0:Int)<=1) U,Mm ht hb hK h c0 c1 (by omega:(0:Int)<=2) U,Mm ht hb hK h c0 c1 (by omega:(0:Int)<=3) U,Sz hb,aD,beq_self_eq_true,if_true]
 rw[ag U]
 by_cases z:rd D c=cx
 ·rw[ag (by simpa using z),ag z]
 ·rw[ah (by simpa using z),ah z]
  by_cases y:rd D c=wu l c 4
  ·rw[ag (by simpa using y),ag y]
  ·rw[ah (by simpa using y),ah y]
   repeat' split
   all_goals rfl
structure vR (t:aJ) (l:List a_) (K:Int) (f:gk):Prop where
 aR:po t l K f.fi
 dl:f.cJ.length=t.C.length
 dir: ∀c:Int,0<=c->c<t.C.length->rd f.cJ c=ya t l f.fi c
theorem ac_ (ht:mX t) (hb:l.length<=1000000) (hK:K<=1100000000) (h:po t l K D) (z:Int): ∀(n k:Nat) (x:List Int) (i:Int),(t.C.length-i).toNat<=n->n<k->0<=i->i<=t.C.length->(x.length:Int)=i->(∀c:Int,0<=c->c<i->rd x c=ya t l D c)->
 Ok (pa.l0 k t l (D,z) x i) (λr=>r.2=0/\vR t l K r.1):=by
 have nU:=pd ht.1;have Da:=h.dl;have fin: ∀(k:Nat) (x:List Int) (i:Int),¬i<t.C.length->i<=t.C.length->(x.length:Int)=i->(∀c:Int,0<=c->c<i->rd x c=ya t l D c)->Ok (pa.l0 (k+1) t l (D,z) x i) (λr=>r.2=0/\vR t l K r.1):=λk x i hi dK hx ha=>by
  rw[pa.l0,ah (by simp only;omega)]
  exact Ok.pure ⟨J,h,by simp only;omega,λc c0 c1=>ha c c0 U⟩
 intro n
 induction n with
 |zero=>
  intro k x i hn hk hi dK hx ha;obtain⟨k,rfl⟩:=bl hk;exact fin k x i U dK hx ha
 |succ n ih=>
  intro k x i hn hk hi dK hx ha;obtain⟨k,rfl⟩:=bl hk
  by_cases aS:i<t.C.length
  ·rw[pa.l0,wi U U];refine Ok.pos (by simp only;omega) (Ok.eq (ajJ ht hb hK h hi aS) (Ok.cz U (ih k _ (i+1) U U U U bf λc c0 c1=>?_)))
   rw[QB c0 U];split
   ·rename_i q;rw[q,hx]
   ·exact ha c c0 U
  ·exact fin k x i aS dK hx ha
theorem Tv (ht:mX t) (hb:l.length<=1000000) (hK:K<=1100000000) (hl: ∀x∈l,rD t x/\x.Key+254*256<=K):Ok (pa.f t l) (λr=>r.2=0/\vR t l K r.1):=by
 have nU:=pd ht.1;unfold pa.f;refine(YP ht hb hK hl).bind λv hv=>?_
 obtain⟨D,z⟩:=v;simp only at hv⊢;exact Ok.neg (by simp[hv.1]) (ac_ ht hb hK hv.2 z t.C.length fuel [] 0 U (by rw[cI];omega) U U J (λc c0 c1=>by omega))
end
variable {t : aJ} {l : List Int}
structure Gm (t:aJ) (l:List Int):Prop where
 Ep:mX t
 mem: ∀c∈l,0<=c/\c<t.C.length/\rd t.C c≠255
 up:l.Pairwise (· < ·)
 kG:l.length<=256
abbrev KT:Int:=65024
def zw (t:aJ) (c:Int) (D:List Int):Prop:=po t [⟨c,4,0⟩] KT D
theorem Y5 (ht:mX t) {c:Int} (c0:0<=c) (c1:c<t.C.length) (c2:rd t.C c≠255):Ok (za.f t c) (λr=>zw t c r.1/\r.2=0):=by
 unfold za.f;refine(YP (K:=KT) ht aX (by decide) (λx hx=>?_)).bind λr hr=>Ok.pure ⟨hr.2,hr.1⟩
 simp only[nK,tZ,or_false] at hx;subst hx;exact⟨⟨c0,c1,c2,dU _,by show(0:Int)<=1073741824;decide,.inl J⟩,by show(0:Int)+254*256<=65024;decide⟩
theorem akJ (h:Gm t l): ∀(n k:Nat) (i:Int),(l.length-i).toNat<=n->n<k->0<=i->rl.l0 k t l i=some true:=by
 have hf:=h.kG;have hl:=pd h.Ep.1;have fin: ∀(k:Nat) (i:Int),¬i<l.length->rl.l0 (k+1) t l i=some true:=λk i hi=>by
  rw[rl.l0,ah hi,My _ U,decide_eq_true h.Ep.1];rfl
 intro n
 induction n with
 |zero=>
  intro k i hn hk hi;obtain⟨k,rfl⟩:=bl hk;exact fin k i U
 |succ n ih=>
  intro k i hn hk hi;obtain⟨k,rfl⟩:=bl hk
  by_cases aS:i<l.length
  ·have hm:=h.mem _ (dR hi aS);have hc:=h.Ep.2 _ hm.1 hm.2.1;have et:B_.f t (rd l i)=some (rd t.C (rd l i)):=by rw[akE h.Ep,ag ⟨hm.1,hm.2.1⟩]
   rw[rl.l0,ag aS,ag (c:=0<=i/\i<(aa l:Int)) ⟨hi,aS⟩,et,aD,ah (c:=(rd t.C (rd l i)==0||rd t.C (rd l i)==255)=true) bf]
   have e:(if i>0 then(if(0<=(af (i-1))/\(af (i-1))<(aa l:Int)) then(some (decide ((rd l i)<=(rd l (af (i-1)))))) else none) else(some false))=some false:=by
    by_cases z:i>0
    ·rw[ag z,wi U U,ag U,decide_eq_false (by have:=vD h.up (i:=i-1) (j:=i) U U aS;omega)]
    ·rw[ah z]
   rw[e,aD];simp only[gj,if_false];rw[wi U U];exact ih k (i+1) U U U
  ·exact fin k i aS
theorem Ih {n i j:Int} (i0:0<=i) (i1:i<n) (j0:0<=j) (j1:j<n):0<=i*n/\i*n+j<n*n:=by
 have h1:=Cw (show i+1<=n by omega) (show 0<=n by omega)
 have h2:=Int.mul_nonneg i0 (show 0<=n by omega)
 rw[Int.add_mul,Int.one_mul] at h1;omega
theorem Wo {n i j i' j':Int} (j0:0<=j) (j1:j<n) (j0':0<=j') (j1':j'<n) (e:i*n+j=i'*n+j'):i=i'/\j=j':=by
 have a:=qg (y:=i) j0 j1;have b:=qg (y:=i') j0' j1';rw[e] at a;exact⟨a.2.symm.trans b.2,a.1.symm.trans b.1⟩
def xK (t:aJ) (l:List Int) (j:Int) (x:List Int):Prop:=(x.length:Int)=l.length*l.length/\ ∀q:Int,0<=q->q<j-> ∃D,zw t (rd l q) D/\ ∀i:Int,0<=i->i<l.length->rd x (i*l.length+q)=rd D (rd l i)
theorem ahk (h:Gm t l) {j:Int} (j0:0<=j) (j1:j<l.length) {D:List Int×Int} (hD:zw t (rd l j) D.1): ∀(n k:Nat) (x:List Int) (i:Int),(l.length-i).toNat<=n->n<k->0<=i->xK t l j x->(∀q:Int,0<=q->q<i->rd x (q*l.length+j)=rd D.1 (rd l q))->
 Ok (j3.l1 k l j D x i) (xK t l (j+1)):=by
 have hf:=h.kG;have fin: ∀(k:Nat) (x:List Int) (i:Int),¬i<l.length->xK t l j x->(∀q:Int,0<=q->q<i->rd x (q*l.length+j)=rd D.1 (rd l q))->Ok (j3.l1 (k+1) l j D x i) (xK t l (j+1)):=λk x i hi hx hq=>by
  rw[j3.l1,ah hi];refine Ok.pure ⟨hx.1,λq q0 q1=>?_⟩
  by_cases z:q=j
  ·rw[z];exact⟨D.1,hD,λi i0 i1=>hq i i0 U⟩
  ·exact hx.2 q q0 U
 intro n
 induction n with
 |zero=>
  intro k x i hn hk hi hx hq;obtain⟨k,rfl⟩:=bl hk;exact fin k x i U hx hq
 |succ n ih=>
  intro k x i hn hk hi hx hq;obtain⟨k,rfl⟩:=bl hk
  by_cases aS:i<l.length
  ·have hm:=h.mem _ (dR hi aS);have bZ:=Ih hi aS j0 j1;have yu:(l.length:Int)*l.length<=256*256:=kc U U U U;rw[j3.l1,wi (x:=i*(l.length:Int)) U U,wi (x:=i*(l.length:Int)+j) U U,wi (x:=i+1) U U];refine Ok.pos aS (Ok.cz ⟨hi,aS⟩ (Ok.cz (by rw[hD.dl];exact⟨hm.1,hm.2.1⟩) (Ok.cz (by rw[hx.1];omega) ?_)))
   have eD: ∀c:Int,0<=c->rd (aG x (i*(l.length:Int)+j).toNat (rd D.1 (rd l i))) c=if c=i*(l.length:Int)+j then rd D.1 (rd l i) else rd x c:=λc c0=>lR U (by rw[hx.1];omega) c0
   refine ih k _ (i+1) U U U ⟨by simpa using hx.1,λq q0 q1=>?_⟩ (λq q0 q1=>?_)
   ·obtain⟨E,e1,e2⟩:=hx.2 q q0 q1;refine⟨E,e1,λr r0 r1=>?_⟩
    have:=Ih r0 r1 q0 (show q<l.length by omega)
    rw[eD _ U,ah (λz=>by have:=Wo q0 U j0 j1 z;omega)]
    exact e2 r r0 r1
   ·have:=Ih q0 (show q<l.length by omega) j0 j1
    rw[eD _ U]
    by_cases z:q=i
    ·rw[ag (by rw[z]),z]
    ·rw[ah (λy=>z (Wo j0 j1 j0 j1 y).1)];exact hq q q0 U
  ·exact fin k x i aS hx hq
theorem ahj (h:Gm t l): ∀(n k:Nat) (x:List Int) (j:Int),(l.length-j).toNat<=n->n<k->0<=j->j<=l.length->xK t l j x->Ok (j3.l0 k t l x j) (λr=>r.2=0/\xK t l l.length r.1):=by
 have hf:=h.kG;have fin: ∀(k:Nat) (x:List Int) (j:Int),j<=l.length-> ¬j<l.length->xK t l j x->Ok (j3.l0 (k+1) t l x j) (λr=>r.2=0/\xK t l l.length r.1):=λk x j hj hi hx=>by
  rw[j3.l0,ah hi];have:j=l.length:=U;subst this;exact Ok.pure ⟨J,hx⟩
 intro n
 induction n with
 |zero=>
  intro k x j hn hk hj i_ hx;obtain⟨k,rfl⟩:=bl hk;exact fin k x j i_ U hx
 |succ n ih=>
  intro k x j hn hk hj i_ hx;obtain⟨k,rfl⟩:=bl hk
  by_cases aS:j<l.length
  ·have hm:=h.mem _ (dR hj aS);rw[j3.l0,wi U U];refine Ok.pos aS (Ok.bind (P:=xK t l (j+1)) (Ok.cz ⟨hj,aS⟩ ((Y5 h.Ep hm.1 hm.2.1 hm.2.2).bind λD hD=>?_)) λr hr=>ih k r (j+1) U U U U hr);exact ahk h hj aS hD.1 l.length fuel x 0 U (by rw[cI];omega) U hx (λq q0 q1=>by omega)
  ·exact fin k x j i_ aS hx
theorem ahi (h:Gm t l):Ok (j3.f t l) (λr=>r.2=0/\xK t l l.length r.1):=by
 have hf:=h.kG;unfold j3.f rl.f;have yu:(l.length:Int)*l.length<=256*256:=kc U U U U;have HS:0<=(l.length:Int)*l.length:=Int.mul_nonneg U U;rw[akJ h l.length fuel 0 U (by rw[cI];omega) U,wi U U]
 refine Ok.eq J (Ok.neg aX (Ok.cz U (ahj h l.length fuel _ 0 U (by rw[cI];omega) U U ⟨by simp;omega,λq q0 q1=>by omega⟩)))
variable {g : bx} {more : Int}
theorem Rk (h:cQ g more) (s:Int):qO.f g s=some (fU g s):=by
 unfold qO.f fU;have hv:=h.vs
 by_cases hs:0<=s/\s<dB g.m.W g.m.H
 ·rw[ah U,aD,ah bf,ag U,ag hs]
 ·by_cases h0:s<0
  ·rw[ag h0,ah hs];rfl
  ·rw[ah h0,aD,ag bf,ah hs]
abbrev BF (m:aJ) (s:Int):List Int:=(bO m s).map (cD m.W m.H)
theorem LR (h:cQ g more) {s:Int} (hs:bE g.m.W g.m.H s):Gm (di g.m s) (BF g.m s):=by
 refine⟨BW h hs,λc hc=>?_,?_,by simpa using xa g.m s⟩
 ·obtain⟨x,hx,rfl⟩:=List.mem_map.1 hc;obtain⟨n1,n2,n3,n4⟩:=qU hx;have:=tG h n2;rw[n4] at this;refine⟨this.1,this.2.1,?_⟩;rw[this.2.2];unfold fh;rw[ag n2];exact(rj.1 n1).2
 ·rw[List.pairwise_map];refine(Qg g.m s).imp_of_mem λ{a b} ha hb zV=>?_
  obtain⟨_,a2,_,a4⟩:=qU ha;obtain⟨_,b2,_,b4⟩:=qU hb;exact P5 (ir h.ok a2) (ir h.ok b2) (a4.trans b4.symm) zV
def enc (d:Int):Int:=if d=cx then-1 else d
structure Cv (m:aJ) (s:Int) (p:qf):Prop where
 nodes:p.nodes=bO m s
 len_:(p.aR.length:Int)=(bO m s).length*(bO m s).length
 S3: ∀j:Int,0<=j->j<(bO m s).length-> ∃D,zw (di m s) (cD m.W m.H (rd (bO m s) j)) D/\ ∀i:Int,0<=i->i<(bO m s).length->rd p.aR (i*(bO m s).length+j)=enc (rd D (cD m.W m.H (rd (bO m s) i)))
theorem Wm {x:Int} (h0: -2147483648<=x) (h1:x<=2147483647):IntKind.i32.wrap x=x:=by
 unfold IntKind.wrap IntKind.signed IntKind.bits;simp;omega
theorem ahw (v:Int) (nodes:List Int) (T:List Int×Int) (hT: ∀c:Int,0<=c->c<T.1.length->rd T.1 c=cx∨(0<=rd T.1 c/\rd T.1 c<=KT)) (hb:T.1.length<=65536): ∀(n k:Nat) (x:List Int) (i:Int),(T.1.length-i).toNat<=n->n<k->0<=i->x.length=T.1.length->(∀c:Int,0<=c->c<i->rd x c=enc (rd T.1 c))->
 Ok (jH.l1 k v nodes T x i) (λp=>p.version=v/\p.nodes=nodes/\p.aR.length=T.1.length/\ ∀c:Int,0<=c->c<T.1.length->rd p.aR c=enc (rd T.1 c)):=by
 have hI:cx=1099511627776:=rfl;have Ou:KT=65024:=rfl;have fin: ∀(k:Nat) (x:List Int) (i:Int),¬i<T.1.length->x.length=T.1.length->(∀c:Int,0<=c->c<i->rd x c=enc (rd T.1 c))->Ok (jH.l1 (k+1) v nodes T x i) (λp=>p.version=v/\p.nodes=nodes/\p.aR.length=T.1.length/\ ∀c:Int,0<=c->c<T.1.length->rd p.aR c=enc (rd T.1 c)):=λk x i hi hx ha=>by
  rw[jH.l1,ah hi];exact Ok.pure ⟨J,J,hx,λc c0 c1=>ha c c0 U⟩
 intro n
 induction n with
 |zero=>
  intro k x i hn hk hi hx ha;obtain⟨k,rfl⟩:=bl hk;exact fin k x i U hx ha
 |succ n ih=>
  intro k x i hn hk hi hx ha;obtain⟨k,rfl⟩:=bl hk
  by_cases aS:i<T.1.length
  ·rw[jH.l1,wi (x:=i+1) U U];have s1: ∀(y:List Int) (u c:Int),y.length=T.1.length->0<=c->rd (aG y i.toNat u) c=if c=i then u else rd y c:=λy u c hy c0=>lR hi U c0
   refine Ok.pos aS (Ok.cz ⟨hi,aS⟩ (Ok.cz U (Ok.ite (λq=>Ok.cz bf ?_) λq=>?_)))
   ·have q:rd T.1 i≠cx:=by simpa using q
    have hd:=(hT i hi aS).resolve_left q;rw[Wm U U];refine ih k _ (i+1) U U U (by simpa using hx) λc c0 c1=>?_
    rw[s1 _ _ c (by simpa using hx) c0,s1 _ _ c hx c0]
    by_cases z:c=i
    ·rw[ag z,z];unfold enc;rw[ah q]
    ·rw[ah z,ah z];exact ha c c0 U
   ·have q:rd T.1 i=cx:=by simpa using q
    refine ih k _ (i+1) U U U (by simpa using hx) λc c0 c1=>?_
    rw[s1 _ _ c hx c0]
    by_cases z:c=i
    ·rw[ag z,z];unfold enc;rw[ag q]
    ·rw[ah z];exact ha c c0 U
  ·exact fin k x i aS hx ha
theorem ahv (h:cQ g more) {s:Int} (hs:bE g.m.W g.m.H s) (v:Int): ∀(n k:Nat) (x:List Int) (i:Int),((bO g.m s).length-i).toNat<=n->n<k->0<=i->i<=(bO g.m s).length->x=(BF g.m s).take i.toNat->
 Ok (jH.l0 k (g.m.W,g.m.H) (di g.m s,true) v (bO g.m s) x i) (λp=>p.version=v/\Cv g.m s p):=by
 have hl:=xa g.m s;have fin: ∀(k:Nat) (x:List Int) (i:Int),¬i<(bO g.m s).length->i<=(bO g.m s).length->x=(BF g.m s).take i.toNat->Ok (jH.l0 (k+1) (g.m.W,g.m.H) (di g.m s,true) v (bO g.m s) x i) (λp=>p.version=v/\Cv g.m s p):=λk x i hi dK hx=>by
  rw[jH.l0,ah hi];have hx:x=BF g.m s:=by rw[hx,Cx bf]
  subst hx;refine(ahi (LR h hs)).bind λT hT=>?_
  obtain⟨_,t1,t2⟩:=hT;have hlen:((BF g.m s).length:Int)=(bO g.m s).length:=by simp
  have yu:((bO g.m s).length:Int)*(bO g.m s).length<=256*256:=kc U U U U;rw[hlen] at t1 t2;have hT': ∀c:Int,0<=c->c<T.1.length->rd T.1 c=cx∨(0<=rd T.1 c/\rd T.1 c<=KT):=λc c0 c1=>by
   have hp:0<((bO g.m s).length:Int):=by
    apply jL;intro z;have:((bO g.m s).length:Int)=0:=U;rw[this] at t1;omega
   have hm:=Int.emod_nonneg c (show((bO g.m s).length:Int)≠0 by omega)
   have yq:=A9 c hp;have HG:=u_ c (bO g.m s).length;have hq:c/(bO g.m s).length<(bO g.m s).length:=Int.ediv_lt_of_lt_mul hp U;have HV:0<=c/(bO g.m s).length:=Int.ediv_nonneg c0 U;obtain⟨D,d1,d2⟩:=t2 _ hm yq;have:=d2 _ HV hq;rw[mW,HG] at this;rw[this];have jE:=(LR h hs).mem _ (dR (a:=BF g.m s) HV U)
   by_cases z:rd D (rd (BF g.m s) (c/(bO g.m s).length))=cx
   ·exact .inl z
   ·have:=d1.dv _ jE.1 jE.2.1 z;exact .inr ⟨this.1,this.2.1⟩
  refine Ok.cz U ((ahw v _ T hT' U T.1.length fuel _ 0 U (by rw[cI];omega) U aX (λc c0 c1=>by omega)).mono λp hp=>⟨hp.1,hp.2.1,by rw[hp.2.2.1];exact t1,λj j0 j1=>?_⟩)
  obtain⟨D,d1,d2⟩:=t2 j j0 j1;have hr: ∀i:Int,0<=i->i<(bO g.m s).length->rd (BF g.m s) i=cD g.m.W g.m.H (rd (bO g.m s) i):=λi i0 i1=>Ax i0 i1
  rw[hr j j0 j1] at d1;refine⟨D,d1,λi i0 i1=>?_⟩
  have:=Ih i0 i1 j0 j1;rw[hp.2.2.2 _ U (by rw[t1];omega),d2 i i0 i1,hr i i0 i1]
 intro n
 induction n with
 |zero=>
  intro k x i hn hk hi dK hx;obtain⟨k,rfl⟩:=bl hk;exact fin k x i U dK hx
 |succ n ih=>
  intro k x i hn hk hi dK hx;obtain⟨k,rfl⟩:=bl hk
  by_cases aS:i<(bO g.m s).length
  ·rw[jH.l0,wi (x:=i+1) U U];refine Ok.pos aS (Ok.cz ⟨hi,aS⟩ (Ok.eq (Is ..) (Ok.cz (by rw[hx];simp;omega) (ih k _ (i+1) U U U U ?_))))
   rw[hx,Jn hi (by simpa using aS),Ax hi aS]
  ·exact fin k x i aS dK hx
theorem ahy (h:cQ g more) {s:Int} (hs:bE g.m.W g.m.H s) (M:dO):Ok (jH.f M s g) (λp=>p.version=fU g s/\Cv g.m s p):=by
 have hl:=xa g.m s;unfold jH.f;refine Ok.eq (B0 g) (Ok.eq ((Ra h s).trans (by rw[T9 hs])) ?_)
 rw[Rk h,Xh h];exact Ok.eq J (ahv h hs _ (bO g.m s).length fuel [] 0 U (by rw[cI];omega) U U J)
structure A8 (g:bx) (M:dO):Prop where
 len_:(M.parts.length:Int)=dB g.m.W g.m.H
 le: ∀s:Int,bE g.m.W g.m.H s->(rd M.parts s).version<=g.bS
 ok: ∀s:Int,bE g.m.W g.m.H s->(rd M.parts s).version=fU g s->Cv g.m s (rd M.parts s)
 cl:M.clean=g.bS-> ∀s:Int,bE g.m.W g.m.H s->(rd M.parts s).version=fU g s
 NN:M.clean<=g.bS
 fg:0<=M.count/\M.count<=1000000000000
def Bm (g:bx) (M:dO) (s:Nat):Bool:=(rd M.parts (s:Int)).version !=fU g s
def qJ (g:bx) (M:dO) (n:Nat):List Int:=((List.range n).filter (Bm g M)).map Int.ofNat
theorem acR (g:bx) (M:dO) (n:Nat):qJ g M (n+1)=if Bm g M n=true then qJ g M n++[(n:Int)] else qJ g M n:=by
 unfold qJ;rw[List.range_succ,List.filter_append,List.map_append]
 by_cases h:Bm g M n=true
 ·rw[ag h,List.filter_cons_of_pos h];rfl
 ·rw[ah h,List.filter_cons_of_neg h];simp
theorem NX (g:bx) (M:dO) (n:Nat):(qJ g M n).length<=n:=by
 unfold qJ;simp only[List.length_map];have:=EE (Bm g M) (List.range n);simpa using this
theorem NY {M:dO} {n:Nat} {s:Int}:s∈qJ g M n↔0<=s/\s<n/\(rd M.parts s).version≠fU g s:=by
 unfold qJ;simp only[List.mem_map,List.mem_filter,List.mem_range];constructor
 ·rintro⟨a,⟨a1,a2⟩,rfl⟩;exact⟨by simp,by simpa using a1,by simpa[Bm] using a2⟩
 ·rintro⟨h0,h1,h2⟩;refine⟨s.toNat,⟨by omega,?_⟩,by simp;omega⟩
  unfold Bm;rw[show((s.toNat:Nat):Int)=s by omega];simpa using h2
theorem acQ (h:cQ g more) (M:dO) (hb:M.parts.length<=4096): ∀(n k:Nat) (i:Nat),i+n=M.parts.length->n<k->oQ.l0 k M g (qJ g M i) (i:Int)=some (qJ g M M.parts.length):=by
 intro n
 induction n with
 |zero=>
  intro k i hi hk;obtain⟨k,rfl⟩:=bl hk;rw[oQ.l0,ah U];have:i=M.parts.length:=U;rw[this]
 |succ n ih=>
  intro k i hi hk;obtain⟨k,rfl⟩:=bl hk;have hl:=NX g M i;have:=ih k (i+1) U U;rw[acR] at this;rw[oQ.l0,ag U,ag U,Rk h,aD,wi U U];have ed:((rd M.parts (i:Int)).version !=fU g i)=Bm g M i:=rfl;rw[ed]
  by_cases z:Bm g M i=true
  ·rw[ag z] at this;rw[ag z,ag U];exact this
  ·rw[ah z] at this;rw[ah z];exact this
variable {M : dO}
theorem acP (h:cQ g more) (hM:A8 g M):oQ.f M g=some (qJ g M M.parts.length):=by
 unfold oQ.f;have hl:=hM.len_;have hc:=oE g.m.W g.m.H;rw[G6,aD]
 by_cases z:M.clean=g.bS
 ·rw[ag (by simpa using z)]
  congr 1
  refine(List.eq_nil_iff_forall_not_mem.2 λs hs=>?_).symm;obtain⟨a,b,c⟩:=NY.1 hs;exact c (hM.cl z s ⟨a,by omega⟩)
 ·rw[ah (by simpa using z)]
  exact acQ h M U M.parts.length fuel 0 U (by rw[cI];omega)
structure rB (g:bx) (M:dO):Prop where
 ms:A8 g M
 all: ∀s:Int,bE g.m.W g.m.H s->(rd M.parts s).version=fU g s
theorem rB.part (h:rB g M) {s:Int} (hs:bE g.m.W g.m.H s):Cv g.m s (rd M.parts s):=h.ms.ok s hs (h.all s hs)
theorem Zn {x:Int} (h1:0<=x) (h2:x<=18446744073709551615):fc x=x:=sC h1 h2
theorem AO {a b:Int} (a0:0<=a) (a1:a<=4611686018427387904) (b0:0<=b) (b1:b<=4611686018427387904):tM.f a b=some (a+b):=by
 unfold tM.f;rw[Zn U U,ah U,Zn U U]
theorem ai7 (h:cQ g more) (hv: ∀s:Int,bE g.m.W g.m.H s->fU g s<=g.bS) (L:List Int) (hL: ∀s∈L,bE g.m.W g.m.H s) (hb:L.length<=4096) (N:Int): ∀(n k:Nat) (i:Int) (M:dO),(L.length-i).toNat<=n->n<k->0<=i->i<=L.length->A8 g M->M.count+(L.length-i)=N->
 (∀s:Int,bE g.m.W g.m.H s->(rd M.parts s).version=fU g s∨ ∃j:Int,i<=j/\j<L.length/\rd L j=s)->N<=1000000000000->
 Ok (oR.l0 k g L M i) (λr=>r.1=L.length/\rB g r.2/\r.2.clean=g.bS/\r.2.count=N):=by
 have fin: ∀(k:Nat) (i:Int) (M:dO),¬i<L.length->i<=L.length->A8 g M->M.count+(L.length-i)=N->(∀s:Int,bE g.m.W g.m.H s->(rd M.parts s).version=fU g s∨ ∃j:Int,i<=j/\j<L.length/\rd L j=s)->Ok (oR.l0 (k+1) g L M i) (λr=>r.1=L.length/\rB g r.2/\r.2.clean=g.bS/\r.2.count=N):=λk i M hi dK hM hN ha=>by
  rw[oR.l0,ah hi];have tc: ∀s:Int,bE g.m.W g.m.H s->(rd M.parts s).version=fU g s:=λs hs=>(ha s hs).resolve_right λ⟨j,j0,j1,_⟩=>by omega
  refine Ok.eq (G6 g) (Ok.pure ⟨J,⟨⟨hM.len_,hM.le,hM.ok,λ_=>tc,dU _,hM.fg⟩,tc⟩,J,?_⟩);simp only;omega
 intro n
 induction n with
 |zero=>
  intro k i M hn hk hi dK hM hN ha Uk;obtain⟨k,rfl⟩:=bl hk;exact fin k i M U dK hM hN ha
 |succ n ih=>
  intro k i M hn hk hi dK hM hN ha Uk;obtain⟨k,rfl⟩:=bl hk
  by_cases aS:i<L.length
  ·have hs:=hL _ (dR hi aS);have hc:=hM.fg;rw[oR.l0,wi (x:=i+1) U U];refine Ok.pos aS (Ok.cz ⟨hi,aS⟩ ((ahy h hs M).bind λp hp=>Ok.cz (by rw[hM.len_];exact hs) (Ok.eq (AO hc.1 U U U) ?_)))
   have eD: ∀s:Int,0<=s->rd (aG M.parts (rd L i).toNat p) s=if s=rd L i then p else rd M.parts s:=λs s0=>lR hs.1 (by rw[hM.len_];exact hs.2) s0
   refine ih k (i+1) _ U U U U ⟨by simpa using hM.len_,λs fZ=>?_,λs fZ e=>?_,λe s fZ=>?_,hM.NN,by simp only;omega⟩ (by simp only;omega) (λs fZ=>?_) Uk
   ·rw[eD s fZ.1];split
    ·rw[hp.1];exact hv _ hs
    ·exact hM.le s fZ
   ·rw[eD s fZ.1] at e⊢;split
    ·rename_i z;rw[z];exact hp.2
    ·rename_i z;rw[ah z] at e;exact hM.ok s fZ e
   ·rw[eD s fZ.1];split
    ·rename_i z;rw[z];exact hp.1
    ·exact hM.cl e s fZ
   ·simp only;rw[eD s fZ.1]
    by_cases z:s=rd L i
    ·rw[ag z,z];exact .inl hp.1
    ·rw[ah z];rcases ha s fZ with y |⟨j,j0,j1,y⟩
     ·exact .inl y
     ·refine .inr ⟨j,?_,j1,y⟩;have:j≠i:=λw=>z (by rw[<-y,w])
      omega
  ·exact fin k i M aS dK hM hN ha
theorem ai6 (h:cQ g more) (hv: ∀s:Int,bE g.m.W g.m.H s->fU g s<=g.bS) (hM:A8 g M) (hc:M.count+4096<=1000000000000):
 Ok (oR.f M g) (λr=>rB g r.2/\r.2.clean=g.bS/\r.2.count=M.count+(qJ g M M.parts.length).length):=by
 unfold oR.f;have hl:=hM.len_;have rN:=oE g.m.W g.m.H;have Da:=NX g M M.parts.length;refine Ok.eq (acP h hM) ((ai7 h hv _ (λs hs=>?_) U (M.count+(qJ g M M.parts.length).length) (qJ g M M.parts.length).length fuel 0 M U (by rw[cI];omega) U U hM U (λs hs=>?_) U).mono λr hr=>hr.2)
 ·obtain⟨a,b,_⟩:=NY.1 hs;exact⟨a,by omega⟩
 ·by_cases z:(rd M.parts s).version=fU g s
  ·exact .inl z
  ·obtain⟨j,j0,j1,e⟩:=ka ((NY (n:=M.parts.length)).2 ⟨hs.1,by have:=hs.2;omega,z⟩)
   exact .inr ⟨j,j0,j1,e⟩
theorem ahz (h:cQ g more) (hv: ∀s:Int,bE g.m.W g.m.H s->1<=fU g s): ∃M,tq.f g=some (some M)/\A8 g M/\M.count=0/\M.clean=0/\ ∀s:Int,bE g.m.W g.m.H s->(rd M.parts s).version=0:=by
 unfold tq.f;have rN:=oE g.m.W g.m.H;have e:(bq g.m.W g.m.H).1*(bq g.m.W g.m.H).2=dB g.m.W g.m.H:=rfl;rw[B0,aD,Ed,aD,e,wi U U,ag U];have h0: ∀s:Int,bE g.m.W g.m.H s->(rd (cy (dB g.m.W g.m.H).toNat (default:qf)) s).version=0:=λs hs=>by
  rw[uC hs.1 (by have:=hs.2;omega)];rfl
 have Pf:=h.ep;refine⟨_,J,⟨by simp;omega,λs hs=>by simp only;rw[h0 s hs];omega,λs hs e=>?_,λe=>by simp only at e;omega,by simp only;omega,by simp⟩,J,J,h0⟩
 simp only at e;rw[h0 s hs] at e;have:=hv s hs;omega
section
variable {g : bx} {more : Int} {s : jJ} {k : Int} {ord : List Int}
abbrev KF:Int:=104603678
abbrev CB:Int:=1000000000000
structure rA (c:gD) (b:Int):Prop where
 re:0<=c.bK/\c.bK<=b
 se:0<=c.bL/\c.bL<=b
 bu:0<=c.bH/\c.bH<=b
 hi:0<=c.bG/\c.bG<=b
 st:0<=c.bR/\c.bR<=b
 ev:0<=c.bM/\c.bM<=b
theorem rA.mono {c:gD} {b b':Int} (h:rA c b) (hb:b<=b'):rA c b':=by
 obtain⟨a1,a2,a3,a4,a5,a6⟩:=h;exact⟨by omega,by omega,by omega,by omega,by omega,by omega⟩
structure Cz (g:bx) (s:jJ) (k:Int) (ord:List Int):Prop where
 pE:sK s.keys k ord
 fl:s.fields.length=s.keys.aw.length
 ok: ∀c:Int,0<=c->c<s.fields.length->bV g.m (rd s.keys.aw c).key.1/\bE g.m.W g.m.H (rd s.keys.aw c).key.2/\(rd s.fields c).version<=g.bS/\
  ((rd s.fields c).version=fU g (rd s.keys.aw c).key.2->(rd s.fields c).uR.length<=1000000/\vR (di g.m (rd s.keys.aw c).key.2) (rd s.fields c).uR KF (rd s.fields c).field)
def SM (s:jJ) (a b v:Int) (l:List a_):Prop:= ∃c,cN s.keys.fB (a,b)=some c/\(rd s.fields c).version=v/\(rd s.fields c).uR=l
theorem Xw (f:gk) (h1:f.fi.length<=1000) (h2:f.cJ.length<=1000):uS.f f=some f:=by
 unfold uS.f ri.f;rw[ag bf,aD,ag bf,aD]
 cases f;rfl
theorem L_ {c:Int} (h0:0<=c) (h1:c<=1000000000000):nz.f c=some (c+1):=by
 unfold nz.f;rw[AO h0 U U U];rfl
theorem ack (l:List a_) (hb:l.length<=1000000):tI.f l=some l:=by
 unfold tI.f;rw[ag bf];rfl
theorem Ob (h:cQ g more) {b:Int} (hb:bE g.m.W g.m.H b) {l:List a_} {f:gk} (hf:vR (di g.m b) l KF f):f.fi.length<=1000/\f.cJ.length<=1000:=by
 have:=pd (BW h hb).1;rw[hf.aR.dl,hf.dl];omega
structure Ry (g:bx) (s:jJ) (k:Int) (ord:List Int) (a b:Int) (l:List a_) (r:gk×Int×jJ):Prop where
 code:r.2.1=0
 C2:vR (di g.m b) l KF r.1
 sh: ∃c A B,Cz g r.2.2 k (c::(A++B))/\(rd r.2.2.keys.aw c).key=(a,b)/\(ord=A++c::B∨ord=A++B)/\
  (∀d∈A++B,(rd r.2.2.keys.aw d).key=(rd s.keys.aw d).key/\rd r.2.2.fields d=rd s.fields d)/\
  (cN s.keys.fB (a,b)=some c∨(cN s.keys.fB (a,b)=none/\(ord=A++B∨(B=[]/\(s.keys.aw.length:Int)=k))))
 now:SM r.2.2 a b (fU g b) l
 hit:SM s a b (fU g b) l->r.2.2.count=⟨s.count.bK,s.count.bL,s.count.bH,s.count.bG+1,s.count.bR,s.count.bM⟩
 fg:r.2.2.count.bK=s.count.bK/\r.2.2.count.bL=s.count.bL/\s.count.bH<=r.2.2.count.bH/\s.count.bG<=r.2.2.count.bG/\r.2.2.count.bH+r.2.2.count.bG=s.count.bH+s.count.bG+1/\s.count.bR<=r.2.2.count.bR/\s.count.bM<=r.2.2.count.bM/\r.2.2.count.bR<=s.count.bR+1/\r.2.2.count.bM<=s.count.bM+1
theorem aj0 (h:cQ g more) (hv: ∀b:Int,bE g.m.W g.m.H b->fU g b<=g.bS) (hs:Cz g s k ord) (hc:rA s.count CB) {a b:Int} (ha:bV g.m a) (hb:bE g.m.W g.m.H b) (l:List a_) (Li:l.length<=1000000) (hl: ∀x∈l,rD (di g.m b) x/\x.Key+254*256<=KF):
 Ok (ny.f s a b (fU g b) (di g.m b) l) (Ry g s k ord a b l):=by
 have ht:=BW h hb;have Lg:=hs.pE.kb;have Ff:=hs.pE.kG;obtain⟨c1,c2,c3,c4,c5,c6⟩:=hc;unfold ny.f;refine(YK ht l Li).bind λm hm=>?_
 have:m=true:=hm.2 λx hx=>(hl x hx).1;subst this;refine Ok.neg aX ((akR hs.pE a b).bind λv PJ=>?_);obtain⟨A,B,hL,zX⟩:=PJ;have hfl:=hs.fl;have p8:=(hL.mem v.1).1 (jj ..);obtain⟨V_,Wa⟩:v.1∉A/\v.1∉B:=by
  have:=(List.nodup_cons.1 hL.nd).1;simpa using this
 obtain⟨X,hX,Uq,C3⟩: ∃X,(if(v.1==(aa s.fields:Int))=true then(if(aa s.fields+1<=1099511627776) then(some (s.fields++[(rh.mk 0 [] (gk.mk [] []))])) else none) else(some s.fields))=some X/\X.length=v.2.2.2.aw.length/\ ∀d:Int,0<=d->d<s.fields.length->rd X d=rd s.fields d:=by
  rcases zX with⟨_,_,_,Di,h5,_⟩ |⟨_,_,_,_,h4,h5,_⟩ |⟨_,_,_,Di,_,h4,h5,_⟩
  ·rw[ah bf];exact⟨_,J,by omega,λ_ _ _=>rfl⟩
  ·rw[ag bf,ag U];exact⟨_,J,by simp;omega,λd d0 d1=>vG d0 d1⟩
  ·rw[ah bf];exact⟨_,J,by omega,λ_ _ _=>rfl⟩
 rw[hX,aD];refine Ok.cz U ?_;have Uj:KF<=1100000000:=by decide
 have De:(rd v.2.2.2.aw v.1).key=(a,b):=by
  rcases zX with⟨_,_,h3,_,_,h6⟩ |⟨_,_,_,_,_,_,_,h6⟩ |⟨_,_,_,_,_,_,_,_,h6⟩
  ·rw[h6 _ p8.1];exact((hs.pE.sl _ _).1 h3).2.2
  ·exact h6
  ·exact h6
 have Pm: ∀d∈A++B,0<=d/\d<s.fields.length/\(rd v.2.2.2.aw d).key=(rd s.keys.aw d).key:=λd hd=>by
  have vt:d≠v.1:=λz=>by rw[z] at hd;exact(List.mem_append.1 hd).elim V_ Wa
  have Pd:d∈ord:=by
   rcases zX with⟨_,_,_,e,_⟩ |⟨_,_,_,e,_⟩ |⟨_,_,_,e,_⟩<;>rw[e]
   ·rcases List.mem_append.1 hd with q |q
    ·exact wc _ q
    ·exact EF _ (j6 _ q)
   ·exact hd
   ·rcases List.mem_append.1 hd with q |q
    ·exact wc _ q
    ·exact EF _ (j6 _ q)
  have hr:=(hs.pE.mem d).1 Pd;refine⟨hr.1,by omega,?_⟩
  rcases zX with⟨_,_,_,_,_,h6⟩ |⟨_,_,_,_,_,_,h6,_⟩ |⟨_,_,_,_,_,_,_,h6,_⟩
  ·exact h6 d hr.1
  ·exact h6 d hr.1 hr.2
  ·exact h6 d hr.1 vt
 have VS:ord=A++v.1::B∨ord=A++B:=by
  rcases zX with⟨_,_,_,e,_⟩ |⟨_,_,_,e,_⟩ |⟨_,_,_,e,_⟩
  ·exact .inl e
  ·exact .inr e
  ·exact .inl e
 have hold:cN s.keys.fB (a,b)=some v.1∨(cN s.keys.fB (a,b)=none/\(ord=A++B∨(B=[]/\(s.keys.aw.length:Int)=k))):=by
  rcases zX with⟨_,_,h3,_⟩ |⟨_,_,h3,h4,_⟩ |⟨_,_,h3,_,h5,h6,_⟩
  ·exact .inl h3
  ·exact .inr ⟨h3,.inl h4⟩
  ·exact .inr ⟨h3,.inr ⟨h5,h6⟩⟩
 have hq:(if v.2.1=true then(if((rd X v.1).version==fU g b)=true then((BX.f ((rd X v.1).uR) l).bind λv7=>some v7) else(some false)) else(some false))=some (decide (v.2.1=true/\(rd X v.1).version=fU g b/\(rd X v.1).uR=l)):=by
  by_cases z:v.2.1=true
  ·rw[ag z]
   by_cases y:(rd X v.1).version=fU g b
   ·rw[ag (by simpa using y)]
    have hlen:(rd X v.1).uR.length<=1000000:=by
     rcases zX with⟨_,_,h3,Di,h5,h6⟩ |⟨h1,_⟩ |⟨h1,_⟩
     ·have aS:v.1<s.fields.length:=U;rw[C3 _ p8.1 aS] at y⊢;have:=(hs.ok _ p8.1 aS).2.2.2;rw[<-h6 _ p8.1,De] at this;exact(this y).1
     ·rw[h1] at z;simp at z
     ·rw[h1] at z;simp at z
    rw[akj _ _ hlen];simp[z,y]
   ·rw[ah (by simpa using y)];simp[y]
  ·rw[ah z];simp[z]
 rw[hq,aD];refine Ok.ite (λq=>?_) λq=>?_
 ·obtain⟨q1,q2,q3⟩:=of_decide_eq_true q;rcases zX with⟨h1,h2,h3,Di,h5,h6⟩ |⟨h1,_⟩ |⟨h1,_⟩
  rotate_left
  ·rw[h1] at q1;simp at q1
  ·rw[h1] at q1;simp at q1
  have aS:v.1<s.fields.length:=U;have VG:vR (di g.m b) l KF (rd X v.1).field:=by
   have:=(hs.ok _ p8.1 aS).2.2.2;rw[<-h6 _ p8.1,De] at this;rw[C3 _ p8.1 aS] at q2 q3⊢;have:=(this q2).2;rw[q3] at this;exact this
  have hlen:=Ob h hb VG;refine Ok.eq (L_ c4.1 c4.2) (Ok.eq (Xw _ hlen.1 hlen.2) (Ok.pure ⟨J,VG,⟨v.1,A,B,⟨hL,Uq,λd d0 d1=>?_⟩,De,VS,λd hd=>?_,hold⟩,⟨v.1,(hL.sl _ _).2 ⟨p8.1,p8.2,De⟩,q2,q3⟩,λ_=>rfl,⟨J,J,dU _,by show s.count.bG<=s.count.bG+1;omega,by show s.count.bH+(s.count.bG+1)=s.count.bH+s.count.bG+1;omega,dU _,dU _,by show s.count.bR<=s.count.bR+1;omega,by show s.count.bM<=s.count.bM+1;omega⟩⟩))
  ·simp only at d1⊢;have Vz:d<s.fields.length:=U;rw[h6 d d0,C3 d d0 Vz];exact hs.ok d d0 Vz
  ·obtain⟨e0,e1,e2⟩:=Pm d hd;exact⟨e2,C3 d e0 e1⟩
 ·have iq: ∃S,(if v.2.1=true then((nz.f s.count.bR).bind λv12=>some v12) else(some s.count.bR))=some S/\s.count.bR<=S/\S<=s.count.bR+1:=by
   split
   ·rw[L_ c5.1 c5.2];exact⟨_,J,by omega,dU _⟩
   ·exact⟨_,J,dU _,by omega⟩
  have Ld: ∃S,(if v.2.2.1=true then((nz.f s.count.bM).bind λv12=>some v12) else(some s.count.bM))=some S/\s.count.bM<=S/\S<=s.count.bM+1:=by
   split
   ·rw[L_ c6.1 c6.2];exact⟨_,J,by omega,dU _⟩
   ·exact⟨_,J,dU _,by omega⟩
  obtain⟨S,eS,S1,S2⟩:=iq;obtain⟨E,eE,E1,E2⟩:=Ld;rw[eS,aD,eE,aD,L_ c3.1 c3.2,aD];refine(Tv ht Li Uj hl).bind λf hf=>Ok.eq (ack l Li) (Ok.eq (Xw _ (Ob h hb hf.2).1 (Ob h hb hf.2).2) (Ok.pure ?_));have eD: ∀d:Int,0<=d->rd (aG X (ax v.1) (rh.mk (fU g b) l f.1)) d=if d=v.1 then rh.mk (fU g b) l f.1 else rd X d:=λd d0=>lR p8.1 U d0
  refine⟨rfl,hf.2,⟨v.1,A,B,⟨hL,by simpa using Uq,λd d0 d1=>?_⟩,De,VS,λd hd=>?_,hold⟩,⟨v.1,(hL.sl _ _).2 ⟨p8.1,p8.2,De⟩,?_,?_⟩,λ⟨c,k1,k2,k3⟩=>?_,⟨rfl,rfl,by show s.count.bH<=s.count.bH+1;omega,dU _,by show s.count.bH+1+s.count.bG=s.count.bH+s.count.bG+1;omega,S1,E1,S2,E2⟩⟩
  ·simp only[mo] at d1⊢;rw[eD d d0]
   by_cases z:d=v.1
   ·rw[ag z,z,De];exact⟨ha,hb,hv b hb,λ_=>⟨Li,hf.2⟩⟩
   ·rw[ah z];have Pd:d∈A++B:=by
     have:=(hL.mem d).2 ⟨d0,by omega⟩
     exact(List.mem_cons.1 this).resolve_left z
    obtain⟨e0,e1,e2⟩:=Pm d Pd;rw[e2,C3 d e0 e1];exact hs.ok d e0 e1
  ·obtain⟨e0,e1,e2⟩:=Pm d hd;have vt:d≠v.1:=λz=>by rw[z] at hd;exact(List.mem_append.1 hd).elim V_ Wa
   refine⟨e2,?_⟩;simp only;rw[eD d e0,ah vt];exact C3 d e0 e1
  ·simp only;rw[eD _ p8.1,ag J]
  ·simp only;rw[eD _ p8.1,ag J]
  ·exfalso;rcases zX with⟨h1,h2,h3,Di,h5,h6⟩ |⟨_,_,h3,_⟩ |⟨_,_,h3,_⟩
   ·rw[h3] at k1;simp only[Option.some.injEq] at k1;subst k1;have aS:v.1<s.fields.length:=U;have q: ¬(v.2.1=true/\(rd X v.1).version=fU g b/\(rd X v.1).uR=l):=by simpa using q
    rw[C3 _ p8.1 aS] at q;exact q ⟨h1,k2,k3⟩
   ·rw[h3] at k1;simp at k1
   ·rw[h3] at k1;simp at k1
theorem aj7 {k:Int} (h1:1<=k) (h2:k<=1000000): ∃s,yX.f k=some (some s)/\sK s.keys k []/\s.fields=[]/\s.count=⟨0,0,0,0,0,0⟩:=by
 obtain⟨l,e,hl⟩:=ahd h1 h2;unfold yX.f;rw[ah U,e];exact⟨_,J,hl,J,J⟩
theorem TF (h:sK s.keys k ord): ∃s',qv.f s=some s'/\sK s'.keys k []/\s'.fields=[]/\s'.count=s.count:=by
 obtain⟨l,e,hl⟩:=aci h;unfold qv.f;rw[e];exact⟨_,J,hl,J,J⟩
theorem Cz.empty (g:bx) (h:sK s.keys k []) (hf:s.fields=[]):Cz g s k []:=by
 have hl:s.keys.aw.length=0:=by
  apply jL;intro z;have:=(h.mem 0).2 U;simp at this
 exact⟨h,by rw[hf,hl];rfl,λc c0 c1=>by rw[hf] at c1;simp at c1;omega⟩
end
variable {g : bx} {more : Int} {M : dO}
theorem ahb (x y:Int):cmp_Less_int.f x y=some (decide (x<y)):=by
 unfold cmp_Less_int.f cmp_isNaN_int.f;simp
theorem abQ (x:List Int) (t:Int) (hx:x.Pairwise (· < ·)) (hb:x.length<=1000000): ∀(n k:Nat) (i j:Int),(j-i).toNat<=n->n<k->0<=i->i<=j->j<=x.length->(∀c:Int,0<=c->c<i->rd x c<t)->(∀c:Int,j<=c->c<x.length->t<=rd x c)->
 Ok (pI.l0 k x t i j) (λr=>0<=r/\r<=x.length/\(∀c:Int,0<=c->c<r->rd x c<t)/\(∀c:Int,r<=c->c<x.length->t<=rd x c)):=by
 have fin: ∀(k:Nat) (i j:Int),¬i<j->0<=i->i<=j->j<=x.length->(∀c:Int,0<=c->c<i->rd x c<t)->(∀c:Int,j<=c->c<x.length->t<=rd x c)->Ok (pI.l0 (k+1) x t i j) (λr=>0<=r/\r<=x.length/\(∀c:Int,0<=c->c<r->rd x c<t)/\(∀c:Int,r<=c->c<x.length->t<=rd x c)):=λk i j tj h0 h1 h2 ha hb=>by
  rw[pI.l0,ah tj];exact Ok.pure ⟨h0,by omega,ha,λc c0 c1=>hb c U c1⟩
 intro n
 induction n with
 |zero=>
  intro k i j hn hk h0 h1 h2 ha hb;obtain⟨k,rfl⟩:=bl hk;exact fin k i j U h0 h1 h2 ha hb
 |succ n ih=>
  intro k i j hn hk h0 h1 h2 ha hb;obtain⟨k,rfl⟩:=bl hk
  by_cases aS:i<j
  ·have e:af (fS (fc (af (i+j))) (2^1))=(i+j)/2:=by
    rw[wi (x:=i+j) U U,sC U U,Int.fdiv_eq_ediv_of_nonneg _ (by decide),show(2:Int)^1=2 from rfl,wi U U]
   rw[pI.l0,e,wi (x:=(i+j)/2+1) U U];refine Ok.pos aS (Ok.cz U (Ok.eq (ahb ..) (Ok.ite (λq=>?_) λq=>?_)))
   ·have q:=of_decide_eq_true q;refine ih k _ j U U U U h2 (λc c0 c1=>?_) hb
    by_cases z:c=(i+j)/2
    ·rw[z];exact q
    ·have:=vD hx (i:=c) (j:=(i+j)/2) c0 U U;omega
   ·have q: ¬rd x ((i+j)/2)<t:=by simpa using q
    refine ih k i _ U U h0 U U ha (λc c0 c1=>?_)
    by_cases z:c=(i+j)/2
    ·rw[z];omega
    ·have:=vD hx (i:=(i+j)/2) (j:=c) U U c1;omega
  ·exact fin k i j aS h0 h1 h2 ha hb
theorem abP (x:List Int) (t:Int) (hx:x.Pairwise (· < ·)) (hb:x.length<=1000000):Ok (pI.f x t) (λr=>(r.2=true↔t∈x)/\(r.2=true->0<=r.1/\r.1<x.length/\rd x r.1=t)):=by
 unfold pI.f B2.f;refine(abQ x t hx hb x.length fuel 0 x.length U (by rw[cI];omega) U U U (λc c0 c1=>by omega) (λc c0 c1=>by omega)).bind λr hr=>?_
 obtain⟨r0,r1,r2,r3⟩:=hr;have gY:(r<x.length->rd x r≠t)->t∉x:=λh hm=>by
  obtain⟨c,c0,c1,e⟩:=ka hm;rcases Int.lt_trichotomy c r with q |q |q
  ·have:=r2 c c0 q;omega
  ·subst q;exact h c1 e
  ·have:=vD hx r0 q c1;have:=r3 r U U;omega
 by_cases h1:r<x.length
 ·rw[ag h1,ag ⟨r0,h1⟩]
  by_cases h2:rd x r=t
  ·rw[ag (by simpa using h2)]
   exact Ok.pure ⟨⟨λ_=>by rw[<-h2];exact dR r0 h1,λ_=>rfl⟩,λ_=>⟨r0,h1,h2⟩⟩
  ·rw[ah (by simpa using h2)]
   have:=gY λ_=>h2
   simp only[aD,bne_self_eq_false,gj,if_false];exact Ok.pure ⟨by simpa using this,by simp⟩
 ·rw[ah h1];have:=gY λq=>absurd q h1
  exact Ok.pure ⟨by simpa using this,by simp⟩
def node (m:aJ) (c:Int):Prop:=c∈bO m (aQ m.W m.H c)
theorem yM {m:aJ} {c:Int} (h:node m c):mM m c=true/\bV m c:=⟨(qU h).1,(qU h).2.1⟩
theorem L7 {m:aJ} {s c:Int} (h:c∈bO m s):node m c:=by
 unfold node;rw[(qU h).2.2.2];exact h
theorem TA (h:cQ g more) (hF:rB g M) (c:Int):Ok (uw.f M c g) (λr=>(¬bQ g.m.W g.m.H c/\r=(none,0,false))∨(bQ g.m.W g.m.H c/\r.1=some (aQ g.m.W g.m.H c)/\(r.2.2=true↔node g.m c)/\(r.2.2=true->0<=r.2.1/\r.2.1<(bO g.m (aQ g.m.W g.m.H c)).length/\rd (bO g.m (aQ g.m.W g.m.H c)) r.2.1=c))):=by
 unfold uw.f Fx.f;refine Ok.eq (B0 g) (Ok.eq (si ..) (Ok.ite (λq=>Ok.pure (.inl ⟨AK.1 q,J⟩)) λq=>?_));have hc:bQ g.m.W g.m.H c:=jL λz=>q (AK.2 z);have hs:=o0 hc;have hp:=hF.part hs;refine Ok.cz (by rw[hF.ms.len_];exact hs) ?_
 rw[hp.nodes];refine Ok.bind (Ok.bind (abP _ c (Qg ..) (by have:=xa g.m (aQ g.m.W g.m.H c);omega)) λr hr=>Ok.pure (P:=λr:Int×Bool=>(r.2=true↔node g.m c)/\(r.2=true->0<=r.1/\r.1<(bO g.m (aQ g.m.W g.m.H c)).length/\rd (bO g.m (aQ g.m.W g.m.H c)) r.1=c)) hr) λr hr=>Ok.pure (.inr ⟨hc,J,hr⟩)
theorem ah4 (hF:rB g M) (s:Int) (hs:bE g.m.W g.m.H s):yE.f M s g=some (bO g.m s):=by
 have hp:=hF.part hs;have hl:=xa g.m s;unfold yE.f ri.f;have:=hs.1;have:=hs.2;rw[hF.ms.len_,ah U,hp.nodes];simp only[aD];rw[ah bf,ag hs,ag bf];rfl
def Comes (m:aJ) (b:Int) (e:eJ):Prop:=
 (e.To∈bO m (aQ m.W m.H b)/\e.To≠b/\e.kP≠cx/\ ∃D,zw (di m (aQ m.W m.H b)) (cD m.W m.H b) D/\e.kP=rd D (cD m.W m.H e.To))∨
 (node m e.To/\aQ m.W m.H e.To≠aQ m.W m.H b/\(∃d:Int,0<=d/\d<=3/\e.To=bB m.W m.H b d)/\e.kP=rd m.C b)
theorem ac2 {d:Int} (h:d=cx∨(0<=d/\d<=KT)):(if(enc d != -1)=true then some (af (enc d)) else some 1099511627776)=some d:=by
 have hI:cx=1099511627776:=rfl;have hK:KT=65024:=rfl;unfold enc
 by_cases z:d=cx
 ·simp[z]
 ·have:=h.resolve_left z;rw[ah z,ag bf,wi U U]
theorem agw (h:cQ g more) (hF:rB g M) {b:Int} (hb:node g.m b) (v:Option Int×Int×Bool) (hv:0<=v.2.1/\v.2.1<(bO g.m (aQ g.m.W g.m.H b)).length/\rd (bO g.m (aQ g.m.W g.m.H b)) v.2.1=b)
 (Q:List eJ->Prop) (Fe: ∀x:List eJ,x.length<=256->(∀e,e∈x↔Comes g.m b e/\aQ g.m.W g.m.H e.To=aQ g.m.W g.m.H b)->Ok (iw.l1 fuel M b g (aQ g.m.W g.m.H b) (g.m.W,g.m.H) x 0) Q):
 ∀(n k:Nat) (i:Int) (x:List eJ),((bO g.m (aQ g.m.W g.m.H b)).length-i).toNat<=n->n<k->0<=i->i<=(bO g.m (aQ g.m.W g.m.H b)).length->x.length<=i->
 (∀e,e∈x↔Comes g.m b e/\aQ g.m.W g.m.H e.To=aQ g.m.W g.m.H b/\ ∃j:Int,0<=j/\j<i/\rd (bO g.m (aQ g.m.W g.m.H b)) j=e.To)->
 Ok (iw.l0 k M b g v (aQ g.m.W g.m.H b) x i) Q:=by
 have bZ:=(yM hb).2;have hs:=o0 (ir h.ok bZ);have hp:=hF.part hs;have hN:=xa g.m (aQ g.m.W g.m.H b);have Df:=LR h hs;have hI:cx=1099511627776:=rfl;have Ou:KT=65024:=rfl;generalize hS:aQ g.m.W g.m.H b=s at*;have VW:=Qg g.m s;have fin: ∀(k:Nat) (i:Int) (x:List eJ),¬i<(bO g.m s).length->i<=(bO g.m s).length->x.length<=i->(∀e,e∈x↔Comes g.m b e/\aQ g.m.W g.m.H e.To=s/\ ∃j:Int,0<=j/\j<i/\rd (bO g.m s) j=e.To)->Ok (iw.l0 (k+1) M b g v s x i) Q:=λk i x hi dK hx he=>by
  rw[iw.l0,hp.nodes,ah hi];refine Ok.eq (B0 g) (Fe x U λe=>(he e).trans ⟨λq=>⟨q.1,q.2.1⟩,λq=>⟨q.1,q.2,?_⟩⟩);rcases q.1 with⟨y,_⟩ |⟨_,y,_⟩
  ·rw[hS] at y;obtain⟨j,j0,j1,z⟩:=ka y;exact⟨j,j0,by omega,z⟩
  ·rw[hS] at y;exact absurd q.2 y
 intro n
 induction n with
 |zero=>
  intro k i x hn hk hi dK hx he;obtain⟨k,rfl⟩:=bl hk;exact fin k i x U dK hx he
 |succ n ih=>
  intro k i x hn hk hi dK hx he;obtain⟨k,rfl⟩:=bl hk
  by_cases aS:i<(bO g.m s).length
  ·obtain⟨D,d1,d2⟩:=hp.S3 v.2.1 hv.1 hv.2.1;rw[hv.2.2] at d1;have alA:=Ih hi aS hv.1 hv.2.1;have yu:((bO g.m s).length:Int)*(bO g.m s).length<=256*256:=kc U U U U;have Py:=dR hi aS;have jE:=Df.mem _ (List.mem_map_of_mem Py);have hd:rd D (cD g.m.W g.m.H (rd (bO g.m s) i))=cx∨(0<=rd D (cD g.m.W g.m.H (rd (bO g.m s) i))/\rd D (cD g.m.W g.m.H (rd (bO g.m s) i))<=KT):=by
    by_cases z:rd D (cD g.m.W g.m.H (rd (bO g.m s) i))=cx
    ·exact .inl z
    ·have:=d1.dv _ jE.1 jE.2.1 z;exact .inr ⟨this.1,this.2.1⟩
   have eb:DF.f (rd M.parts s) i v.2.1=some (rd D (cD g.m.W g.m.H (rd (bO g.m s) i))):=by
    unfold DF.f;rw[hp.nodes,wi (x:=i*((bO g.m s).length:Int)) U U,wi U U,ag (by rw[hp.len_];omega),d2 i hi aS]
    exact ac2 hd
   rw[iw.l0,hp.nodes,ag aS,ag (c:=0<=i/\i<_) ⟨hi,aS⟩,eb,aD,wi U U];have bD:(i≠v.2.1)↔rd (bO g.m s) i≠b:=by
    constructor
    ·intro z y;rw[<-hv.2.2] at y;rcases Int.lt_or_gt_of_ne z with w |w
     ·have:=vD VW hi w hv.2.1;omega
     ·have:=vD VW hv.1 w aS;omega
    ·intro z y;rw[y] at z;exact z hv.2.2
   have Ab:aQ g.m.W g.m.H (rd (bO g.m s) i)=s:=(qU Py).2.2.2;generalize hV:rd D (cD g.m.W g.m.H (rd (bO g.m s) i))=V at*;have yl: ∀e:eJ,e.To=rd (bO g.m s) i->(Comes g.m b e↔i≠v.2.1/\V≠cx/\e=⟨rd (bO g.m s) i,V⟩):=λe ee=>by
    obtain⟨a,c⟩:=e;simp only at ee;subst ee;unfold Comes;rw[hS];constructor
    ·rintro(⟨_,z2,z3,E,z4,z5⟩ |⟨_,z2,_⟩)
     ·have:=ake Df.Ep z4 d1 jE.1 jE.2.1;simp only at z2 z3 z5;rw[this,hV] at z5;exact⟨bD.2 z2,by omega,by rw[z5]⟩
     ·exact absurd Ab z2
    ·rintro⟨z1,z2,z3⟩;simp only[eJ.mk.injEq,true_and] at z3;subst z3;exact .inl ⟨Py,bD.1 z1,z2,D,d1,hV.symm⟩
   have yr: ∀e:eJ,(Comes g.m b e/\aQ g.m.W g.m.H e.To=s/\ ∃j:Int,0<=j/\j<i+1/\rd (bO g.m s) j=e.To)↔(e∈x∨(i≠v.2.1/\V≠cx/\e=⟨rd (bO g.m s) i,V⟩)):=λe=>by
    rw[he e];constructor
    ·rintro⟨a,b',j,j0,j1,ej⟩
     by_cases z:j=i
     ·subst z;exact .inr ((yl e ej.symm).1 a)
     ·exact .inl ⟨a,b',j,j0,by omega,ej⟩
    ·rintro(⟨a,b',j,j0,j1,ej⟩ |w)
     ·exact⟨a,b',j,j0,by omega,ej⟩
     ·have ee:e.To=rd (bO g.m s) i:=by rw[w.2.2]
      exact⟨(yl e ee).2 w,by rw[ee];exact Ab,i,hi,by omega,ee.symm⟩
   by_cases q:i≠v.2.1/\V≠cx
   ·rw[ag (by simp;exact q),ag U]
    refine Ok.eq J (ih k (i+1) _ U U U U bf λe=>?_);rw[yr e];simp[q.1,q.2]
   ·rw[ah (by simp only[Bool.and_eq_true,bne_iff_ne];exact q)]
    refine Ok.eq J (ih k (i+1) x U U U U U λe=>?_);rw[yr e];exact⟨.inl,λw=>w.resolve_right λy=>q ⟨y.1,y.2.1⟩⟩
  ·exact fin k i x aS dK hx he
theorem agx (h:cQ g more) (hF:rB g M) {b:Int} (hb:node g.m b): ∀(n k:Nat) (j:Int) (x:List eJ),(4-j).toNat<=n->n<k->0<=j->j<=4->x.length<=256+j->
 (∀e,e∈x↔Comes g.m b e/\(aQ g.m.W g.m.H e.To=aQ g.m.W g.m.H b∨ ∃d:Int,0<=d/\d<j/\e.To=bB g.m.W g.m.H b d))->
 Ok (iw.l1 k M b g (aQ g.m.W g.m.H b) (g.m.W,g.m.H) x j) (λr=>r.length<=260/\ ∀e,e∈r↔Comes g.m b e):=by
 have fin: ∀(k:Nat) (j:Int) (x:List eJ),¬j<=3->x.length<=256+j->j<=4->(∀e,e∈x↔Comes g.m b e/\(aQ g.m.W g.m.H e.To=aQ g.m.W g.m.H b∨ ∃d:Int,0<=d/\d<j/\e.To=bB g.m.W g.m.H b d))->Ok (iw.l1 (k+1) M b g (aQ g.m.W g.m.H b) (g.m.W,g.m.H) x j) (λr=>r.length<=260/\ ∀e,e∈r↔Comes g.m b e):=λk j x hj hx i_ he=>by
  rw[iw.l1,ah hj];refine Ok.pure ⟨by omega,λe=>(he e).trans ⟨λq=>q.1,λq=>⟨q,?_⟩⟩⟩
  rcases q with⟨y,_⟩ |⟨_,_,⟨d,d0,d3,y⟩,_⟩
  ·exact .inl (qU y).2.2.2
  ·exact .inr ⟨d,d0,by omega,y⟩
 intro n
 induction n with
 |zero=>
  intro k j x hn hk hj i_ hx he;obtain⟨k,rfl⟩:=bl hk;exact fin k j x U hx i_ he
 |succ n ih=>
  intro k j x hn hk hj i_ hx he;obtain⟨k,rfl⟩:=bl hk
  by_cases aS:j<=3
  ·rw[iw.l1,wi (x:=j+1) U U];have bZ:=(yM hb).2;have Fc:fh g b=rd g.m.C b:=by unfold fh;rw[ag bZ]
   have yr: ∀(P:Prop),(P↔node g.m (bB g.m.W g.m.H b j)/\aQ g.m.W g.m.H (bB g.m.W g.m.H b j)≠aQ g.m.W g.m.H b)-> ∀e:eJ,(Comes g.m b e/\(aQ g.m.W g.m.H e.To=aQ g.m.W g.m.H b∨ ∃d:Int,0<=d/\d<j+1/\e.To=bB g.m.W g.m.H b d))↔(e∈x∨(P/\e=⟨bB g.m.W g.m.H b j,fh g b⟩)):=λP hP e=>by
    rw[he e];constructor
    ·rintro⟨a,c |⟨d,d0,d1,c⟩⟩
     ·exact .inl ⟨a,.inl c⟩
     ·by_cases z:d=j
      ·subst z;rcases a with⟨y1,y2⟩ |⟨y1,y2,y3,y4⟩
       ·exact .inl ⟨.inl ⟨y1,y2⟩,.inl (qU y1).2.2.2⟩
       ·obtain⟨e1,e2⟩:=e;simp only at c y1 y2 y4;rw[c] at y1 y2;exact .inr ⟨hP.2 ⟨y1,y2⟩,by rw[c,y4,Fc]⟩
      ·exact .inl ⟨a,.inr ⟨d,d0,by omega,c⟩⟩
    ·rintro(⟨a,c |⟨d,d0,d1,c⟩⟩ |⟨p,rfl⟩)
     ·exact⟨a,.inl c⟩
     ·exact⟨a,.inr ⟨d,d0,by omega,c⟩⟩
     ·obtain⟨y1,y2⟩:=hP.1 p;exact⟨.inr ⟨y1,y2,⟨j,hj,aS,J⟩,Fc⟩,.inr ⟨j,hj,by omega,J⟩⟩
   have skip: ¬(node g.m (bB g.m.W g.m.H b j)/\aQ g.m.W g.m.H (bB g.m.W g.m.H b j)≠aQ g.m.W g.m.H b)->Ok (iw.l1 k M b g (aQ g.m.W g.m.H b) (g.m.W,g.m.H) x (j+1)) (λr=>r.length<=260/\ ∀e,e∈r↔Comes g.m b e):=λz=>by
    refine ih k (j+1) x U U U U U λe=>?_
    rw[yr False ⟨False.elim,z⟩ e];simp
   refine Ok.pos aS (Ok.eq (F4 ..) ((TA h hF _).bind λr hr=>?_));rcases hr with⟨r1,rfl⟩ |⟨r1,r2,r3,r4⟩
   ·exact skip λz=>r1 (ir h.ok (yM z.1).2)
   ·rw[r2]
    show Ok (if r.2.2=true then _ else _) _
    refine Ok.ite (λq=>Ok.ite (λq'=>Ok.eq (sU h _) (Ok.cz U ?_)) λq'=>?_) λq=>?_
    ·have q':aQ g.m.W g.m.H (bB g.m.W g.m.H b j)≠aQ g.m.W g.m.H b:=by simpa using q'
     refine ih k (j+1) _ U U U U bf λe=>?_
     rw[yr True ⟨λ_=>⟨r3.1 q,q'⟩,λ_=>trivial⟩ e];simp
    ·exact skip λz=>z.2 (by simpa using q')
    ·exact skip λz=>q (r3.2 z.1)
  ·exact fin k j x aS hx i_ he
theorem agv (h:cQ g more) (hF:rB g M) (b:Int):Ok (iw.f M b g) (λr=>r.length<=260/\((node g.m b/\ ∀e,e∈r↔Comes g.m b e)∨(¬node g.m b/\r=[]))):=by
 unfold iw.f;refine(TA h hF b).bind λr hr=>?_
 rcases hr with⟨r1,rfl⟩ |⟨r1,r2,r3,r4⟩
 ·exact Ok.of (r:=[]) J (⟨by simp,.inr ⟨λz=>r1 (ir h.ok (yM z).2),J⟩⟩)
 ·rw[r2]
  show Ok (if(!r.2.2)=true then some [] else _) (λr=>r.length<=260/\((node g.m b/\ ∀e,e∈r↔Comes g.m b e)∨(¬node g.m b/\r=[])))
  by_cases q:r.2.2=true
  rotate_left
  ·refine Ok.pos (by simpa using q) (Ok.pure ⟨by simp,.inr ⟨λz=>q (r3.2 z),J⟩⟩)
  refine Ok.neg (by simp[q]) ?_
  have q:r.2.2=true:=by simpa using q
  have hb:=r3.1 q;have hs:=o0 r1;have hp:=hF.part hs;have hN:=xa g.m (aQ g.m.W g.m.H b);refine Ok.cz (by rw[hp.nodes,wi U U];omega) ((agw h hF hb r (r4 q) (λr=>r.length<=260/\ ∀e,e∈r↔Comes g.m b e) (λx hx he=>agx h hF hb 4 fuel 0 x aX (by rw[cI];omega) U U U λe=>(he e).trans ⟨λq=>⟨q.1,.inl q.2⟩,λq=>⟨q.1,q.2.resolve_right λ⟨d,d0,d1,_⟩=>by omega⟩⟩) 256 fuel 0 _ U (by rw[cI];omega) U U aX (λe=>⟨λq=>by simp at q,λ⟨_,_,j,j0,j1,_⟩=>by omega⟩)).mono λr hr=>⟨hr.1,.inl ⟨hb,hr.2⟩⟩)
theorem GY (h:cQ g more) {b:Int} (hb:node g.m b) {e:eJ} (he:Comes g.m b e):node g.m e.To/\e.To≠b/\1<=e.kP/\e.kP<=KT:=by
 have Ou:KT=65024:=rfl;have bZ:=yM hb;have hs:=o0 (ir h.ok bZ.2);rcases he with⟨a1,a2,a3,D,a4,a5⟩ |⟨a1,a2,a3,a4⟩
 ·have Df:=LR h hs;have hm:=Df.mem _ (List.mem_map_of_mem (f:=cD g.m.W g.m.H) a1);have hd:=a4.dv _ hm.1 hm.2.1 (by rw[<-a5];exact a3)
  refine⟨L7 a1,a2,?_,by omega⟩
  apply jL;intro z;obtain⟨x,hx,e1,_⟩:=akf Df.Ep a4 hm.1 hm.2.1 U;simp only[nK,tZ,or_false] at hx;subst hx;have hE:=qU a1;rcases Int.lt_or_gt_of_ne a2 with w |w
  ·have:=P5 (ir h.ok hE.2.1) (ir h.ok bZ.2) hE.2.2.2 w;simp only at e1;omega
  ·have:=P5 (ir h.ok bZ.2) (ir h.ok hE.2.1) hE.2.2.2.symm w;simp only at e1;omega
 ·have:=h.rG b bZ.2.1 bZ.2.2;exact⟨a1,λz=>a2 (by rw[z]),by omega,by omega⟩
def CY (a b:cT):Bool:=decide (a.key<b.key)||(a.key==b.key&&decide (a.item<b.item))
theorem Kq (a b:cT):zY.f a b=some (CY a b):=by
 unfold zY.f CY
 by_cases h:a.key<b.key
 ·simp[h]
 ·by_cases g:a.key=b.key<;>simp[h,g]
theorem akO: ∀(n k:Nat) (l:List cT) (i:Int),i.toNat<=n->n<k->i<l.length->l.length<=1099511627776->
 Ok (ni.l0 k l i) (λh=>h.l.length=l.length/\ ∀e,e∈h.l↔e∈l):=by
 intro n
 induction n with
 |zero=>
  intro k l i hn hk hi hb;obtain⟨k,rfl⟩: ∃q,k=q+1:=⟨k-1,by omega⟩
  rw[ni.l0,ah U];exact Ok.pure ⟨J,λ_=>Iff.rfl⟩
 |succ n ih=>
  intro k l i hn hk hi hb;obtain⟨k,rfl⟩: ∃q,k=q+1:=⟨k-1,by omega⟩
  rw[ni.l0];refine Ok.ite (λhp=>?_) (λ_=>Ok.pure ⟨J,λ_=>Iff.rfl⟩);have ew:af (dm (af (i-1)) 2)=(i-1)/2:=by rw[wi (x:=i-1) U U,qz U,wi U U]
  simp only[ew];refine Ok.cz U (Ok.cz U (Ok.eq (Kq _ _) (Ok.ite (λ_=>Ok.pure ⟨J,λ_=>Iff.rfl⟩) λ_=>Ok.cz bf ?_)));refine(ih k _ ((i-1)/2) U U bf (by simpa using hb)).mono λh hh=>⟨by simpa using hh.1,λe=>(hh.2 e).trans (Q_ U hi U U e)⟩
theorem FI (h:eW) (k i:Int) (hb:h.l.length<1099511627776):
 Ok (nh.f h k i) (λr=>r.l.length=h.l.length+1/\ ∀e,e∈r.l↔e∈h.l∨e=⟨k,i⟩):=by
 unfold nh.f ni.f;refine Ok.cz U ((akO h.l.length fuel _ _ ?_ (by rw[cI];omega) ?_ bf).bind λr hr=>Ok.pure ⟨by simpa using hr.1,λe=>by rw[hr.2 e];simp⟩)
 ·simp only[tX,kU,tY];rw[wi U U];omega
 ·simp only[tX,kU,tY];rw[wi U U];omega
theorem acU: ∀(n k:Nat) (l:List cT) (i m j:Int),(2*i+3-j).toNat<=n->n<k->0<=i->i<l.length->(m=i∨i<m)->m<l.length->i<j->l.length<=1099511627776->
 Ok (gr.l1 k l i m j) (λr=>r=Sum.inl ⟨l⟩∨ ∃l' m',r=Sum.inr (l',m')/\l'.length=l.length/\(∀e,e∈l'↔e∈l)/\i<m'/\m'<l.length):=by
 intro n
 induction n with
 |zero=>
  intro k l i m j hn hk i0 i1 hm m1 hj hb;obtain⟨k,rfl⟩: ∃q,k=q+1:=⟨k-1,by omega⟩
  rw[gr.l1,wi (x:=2*i) U U,wi (x:=2*i+2) U U,ah U];simp only[aD,gj,if_false];refine Ok.ite (λ_=>Ok.pure (.inl J)) λq=>Ok.cz U (Ok.cz U (Ok.cz bf (Ok.pure (.inr ⟨_,_,J,by simp,λe=>Q_ i0 i1 U m1 e,?_,m1⟩))))
  have:m≠i:=λz=>q (by simp[z])
  omega
 |succ n ih=>
  intro k l i m j hn hk i0 i1 hm m1 hj hb;obtain⟨k,rfl⟩: ∃q,k=q+1:=⟨k-1,by omega⟩
  rw[gr.l1,wi (x:=2*i) U U,wi (x:=2*i+2) U U];have hx:(if j<=2*i+2 then some (decide (j<(l.length:Int))) else some false)=some (decide (j<=2*i+2/\j<l.length)):=by
   by_cases a:j<=2*i+2<;>simp[a]
  rw[hx];simp only[aD];refine Ok.ite (λq=>?_) λq=>?_
  ·have q':=of_decide_eq_true q;refine Ok.cz U (Ok.cz U (Ok.eq (Kq _ _) (Ok.ite (λ_=>?_) λ_=>?_)))
   ·rw[wi U U];exact ih k l i j (j+1) U U i0 i1 (.inr hj) q'.2 U hb
   ·rw[wi U U];exact ih k l i m (j+1) U U i0 i1 hm m1 U hb
  ·refine Ok.ite (λ_=>Ok.pure (.inl J)) λq=>Ok.cz U (Ok.cz U (Ok.cz bf (Ok.pure (.inr ⟨_,_,J,by simp,λe=>Q_ i0 i1 U m1 e,?_,m1⟩))))
   have:m≠i:=λz=>q (by simp[z])
   omega
theorem acT: ∀(n k:Nat) (l:List cT) (i:Int),l.length-i.toNat<=n->n<k->0<=i->i<l.length->l.length<=1099511627776->
 Ok (gr.l0 k l i) (λh=>h.l.length=l.length/\ ∀e,e∈h.l↔e∈l):=by
 intro n
 induction n with
 |zero=>intro k l i hn hk i0 i1;omega
 |succ n ih=>
  intro k l i hn hk i0 i1 hb;obtain⟨k,rfl⟩: ∃q,k=q+1:=⟨k-1,by omega⟩
  rw[gr.l0,wi (x:=2*i) U U,wi (x:=2*i+1) U U];refine(acU (i.toNat+3) fuel l i i (2*i+1) U (by rw[cI];omega) i0 i1 (.inl J) i1 U hb).bind λr hr=>?_
  rcases hr with rfl |⟨l',m',rfl,e1,e2,e3,e4⟩
  ·exact Ok.pure ⟨J,λ_=>Iff.rfl⟩
  ·exact(ih k l' m' U U U U U).mono λh hh=>⟨by omega,λe=>(hh.2 e).trans (e2 e)⟩
def RG (l:List cT) (r:Int×Int×Bool×eW):Prop:=
 (l=[]/\r=(0,0,false,⟨[]⟩))∨(l≠[]/\r.2.2.1=true/\⟨r.1,r.2.1⟩=rd l 0/\r.2.2.2.l.length+1=l.length/\(∀e∈r.2.2.2.l,e∈l)/\ ∀e∈l,e=rd l 0∨e∈r.2.2.2.l)
theorem FH (h:eW) (hb:h.l.length<=1099511627776):Ok (ng.f h) (RG h.l):=by
 obtain⟨l⟩:=h;unfold ng.f Dc.f Db.f gr.f
 by_cases hl:l=[]
 ·subst hl;exact Ok.pure (.inl ⟨rfl,rfl⟩)
 have hp:0<l.length:=List.length_pos_iff.2 hl;simp only at hb⊢;simp only[aD];rw[ah (by simpa using hl),ag U,wi (x:=(l.length:Int)-1) U U]
 simp only[aD,if_true];refine Ok.cz U (Ok.cz U (Ok.cz bf ?_));have hs: ∀(L:List cT),L.length=l.length->aB L 0 ((l.length:Int)-1)=L.take (l.length-1):=by
  intro L hL;unfold aB;simp
 rw[hs _ aX];have jE: ∀e∈(aG l 0 (rd l ((l.length:Int)-1))).take (l.length-1),e∈l:=by
  intro e he;rcases List.mem_or_eq_of_mem_set (List.mem_of_mem_take he) with h |h
  ·exact h
  ·rw[h];exact tz U U
 have Pq: ∀e∈l,e=rd l 0∨e∈(aG l 0 (rd l ((l.length:Int)-1))).take (l.length-1):=by
  intro e he;obtain⟨c,c0,c1,rfl⟩:=IC.1 he
  by_cases z:c=0
  ·exact .inl (by rw[z])
  ·refine .inr (IC.2 ?_);have ht: ∀d:Int,0<=d->d<(l.length:Int)-1->rd ((aG l 0 (rd l ((l.length:Int)-1))).take (l.length-1)) d=if d=0 then rd l ((l.length:Int)-1) else rd l d:=by
    intro d d0 d1;have:=BM (L:=l) (i:=0) (c:=d) (v:=rd l ((l.length:Int)-1)) U U d0;rw[<-this];simp only[Int.toNat_zero];rw[jc (xs:=List.take _ _) bf,List.getElem_take,jc (xs:=aG _ _ _) bf]
   have hlen:((aG l 0 (rd l ((l.length:Int)-1))).take (l.length-1)).length=l.length-1:=by simp
   by_cases y:c=(l.length:Int)-1
   ·exact⟨0,by omega,by omega,by rw[ht 0 U U,ag J,y]⟩
   ·exact⟨c,c0,by omega,by rw[ht c c0 U,ah z]⟩
 by_cases h1:l.length=1
 ·have e0:(aG l 0 (rd l ((l.length:Int)-1))).take (l.length-1)=[]:=by rw[h1];rfl
  simp only[Int.toNat_zero];rw[e0] at jE Pq⊢;have hd:gr.l0 fuel [] 0=some ⟨[]⟩:=by
   obtain⟨k,hk⟩: ∃q,fuel=q+1+1:=⟨fuel-2,by rw[cI]⟩
   rw[hk,gr.l0,hk,gr.l1];rfl
  rw[hd];exact Ok.pure (.inr ⟨hl,J,J,by simp[h1],jE,Pq⟩)
 ·refine(acT l.length fuel _ 0 aX (by rw[cI];omega) U bf bf).bind λr hr=>Ok.pure (.inr ⟨hl,J,J,?_,λe he=>jE e ((hr.2 e).1 he),λe he=>(Pq e he).imp id λx=>(hr.2 e).2 x⟩)
  have:=hr.1;simp at this;simp only;omega
variable {g : bx} {more : Int}
def r8 (g:bx) (c:Int):Prop:=bV g.m c/\fh g c≠255
theorem Ha (h:cQ g more) {c:Int} (hc:bV g.m c):1<=fh g c/\fh g c<=255:=by
 unfold fh;rw[ag hc];exact h.rG c hc.1 hc.2
theorem ak2 (h:cQ g more) (goal cell key:Int) (m:List (Int×Int)) (hc:r8 g cell) (k0:0<=key) (k1:key<=1000000000): ∀(n k:Nat) (l:List cT) (s:Int),(4-s).toNat<=n->n<k->0<=s->l.length<=10000000-4+s->
 Ok (f_.l1 k goal g (g.m.W,g.m.H) m cell key l s) (λr=>r.1=cF m cell key/\r.2.length<=l.length+(4-s).toNat/\ ∀e∈r.2,e∈l∨(r8 g e.item/\0<=e.key/\e.key<=key+254)):=by
 have eV:=Ha h hc.1;intro n
 induction n with
 |zero=>
  intro k l s hn hk s0 hl;obtain⟨k,rfl⟩:=bl hk;rw[f_.l1,ah U];exact Ok.pure ⟨J,by simp,λe he=> .inl he⟩
 |succ n ih=>
  intro k l s hn hk s0 hl;obtain⟨k,rfl⟩:=bl hk;rw[f_.l1];refine Ok.ite (λhs=>?_) λhs=>Ok.pure ⟨J,by simp only;omega,λe he=> .inl he⟩
  refine Ok.eq (F4 ..) ?_;have PD:Ok (if bB g.m.W g.m.H cell s<0 then some true else(gJ.f g.m.W g.m.H (bB g.m.W g.m.H cell s)).bind λv28=>(gJ.f g.m.W g.m.H goal).bind λrm=>if(v28 !=rm)=true then some true else(jq.f g (bB g.m.W g.m.H cell s)).bind λv30=>some (v30==255)) (λb=>b=false->r8 g (bB g.m.W g.m.H cell s)):=by
   refine Ok.ite (λ_=>Ok.pure aX) λq=>Ok.eq (si ..) (Ok.eq (si ..) (Ok.ite (λ_=>Ok.pure aX) λ_=>Ok.eq (sU h _) (Ok.pure λz=>⟨Mv q,by simpa using z⟩)))
  refine PD.bind λb hb=>Ok.ite (λ_=>?_) λq=>?_
  ·rw[wi U U];exact(ih k l (s+1) U U U U).mono λr hr=>⟨hr.1,by have:=hr.2.1;omega,hr.2.2⟩
  ·have ho:=hb (by simpa using q)
   refine Ok.eq (sU h _) ((FI _ _ _ (by simp only;omega)).bind λr hr=>?_)
   simp only at hr;rw[wi (x:=s+1) U U];refine(ih k r.l (s+1) U U U U).mono λr' oK=>⟨oK.1,by have:=oK.2.1;omega,λe he=>?_⟩
   rcases oK.2.2 e he with z |z
   ·rcases(hr.2 e).1 z with y |rfl
    ·exact .inl y
    ·refine .inr ⟨ho,?_⟩;have:fh g cell≠255:=hc.2;rw[wi U U];simp only;omega
   ·exact .inr z
def nG (g:bx) (m:List (Int×Int)):Nat:=fg (λc=>!bt m c) (g.m.W*g.m.H).toNat
theorem Fz (m:List (Int×Int)) (x y v:Int):bt (cF m x v) y=if x=y then true else bt m y:=by
 unfold bt;rw[BG];split<;>rfl
theorem Y' {m:List (Int×Int)} {c v:Int} (hc:bV g.m c) (hn:bt m c=false):nG g m=nG g (cF m c v)+1:=by
 unfold nG;refine NP (c:=c) hc.1 (by have:=hc.1;have:=hc.2;omega) (by simp[hn]) (by simp[Fz]) (λi _ _ hi=>?_)
 rw[Fz,ah (λz=>hi z.symm)]
theorem ak1 (h:cQ g more) (hN:g.m.W*g.m.H<=1600) (goal:Int): ∀(n k:Nat) (m:List (Int×Int)) (l:List cT) (key cell:Int) (ok:Bool),
 5*nG g m+l.length+(if ok then 1 else 0)<=n->n<k->l.length+5*nG g m<=9000->
 (∀c,bt m c=true->0<=aP m c/\aP m c<=500000)->
 (∀e∈l,r8 g e.item/\0<=e.key/\e.key+254*(nG g m:Int)<=254*1600)->(ok=true->r8 g cell/\0<=key/\key+254*(nG g m:Int)<=254*1600)->(ok=false->l=[])->
 Ok (f_.l0 k goal g (g.m.W,g.m.H) m l key cell ok) (λr=> ∀c,bt r c=true->0<=aP r c/\aP r c<=500000):=by
 intro n
 induction n with
 |zero=>
  intro k m l key cell ok hn hk hb hm hl hp hf;obtain⟨k,rfl⟩:=bl hk;have:ok=false:=by cases ok<;>simp_all
  subst this;rw[f_.l0];exact Ok.pure hm
 |succ n ih=>
  intro k m l key cell ok hn hk hb hm hl hp hf;obtain⟨k,rfl⟩:=bl hk;rw[f_.l0];refine Ok.ite (λq=>?_) λ_=>Ok.pure hm
  obtain⟨p1,p2,p3⟩:=hp q;subst q;simp only[if_true] at hn;have Ps:Ok (if bt m cell=true then some (m,l) else f_.l1 fuel goal g (g.m.W,g.m.H) m cell key l 0) (λr=>5*nG g r.1+r.2.length<=n/\r.2.length+5*nG g r.1<=9000/\(∀c,bt r.1 c=true->0<=aP r.1 c/\aP r.1 c<=500000)/\ ∀e∈r.2,r8 g e.item/\0<=e.key/\e.key+254*(nG g r.1:Int)<=254*1600):=by
   refine Ok.ite (λ_=>Ok.pure ⟨by simp only;omega,hb,hm,hl⟩) λz=>?_
   have z:bt m cell=false:=by simpa using z
   have hu:=Y' (v:=key) p1.1 z;refine(ak2 h goal cell key m p1 p2 U 4 fuel l 0 aX (by rw[cI];omega) U U).mono λr hr=>?_
   obtain⟨e1,e2,e3⟩:=hr;rw[e1];have:(4-(0:Int)).toNat=4:=rfl;refine⟨by omega,by omega,λc hc=>?_,λe he=>?_⟩
   ·rw[rX];rw[Fz] at hc;split
    ·omega
    ·rename_i q;rw[ah q] at hc;exact hm c hc
   ·rcases e3 e he with y |y
    ·have:=hl e y;exact⟨this.1,this.2.1,by omega⟩
    ·exact⟨y.1,y.2.1,by omega⟩
  refine Ps.bind λr hr=>?_
  obtain⟨h1,h2,h3,h4⟩:=hr;refine(FH ⟨r.2⟩ (by simp only;omega)).bind λv hv=>?_
  rcases hv with⟨e1,e2⟩ |⟨e1,e2,e3,e4,e5,e6⟩
  ·subst e2;simp only at e1;exact ih k r.1 [] 0 0 false bf U bf h3 aX aX aX
  ·simp only at e1 e3 e4 e5;have Bv:=h4 (rd r.2 0) (dR U (by have:=List.length_pos_iff.2 e1;omega))
   rw[<-e3] at Bv;refine ih k r.1 v.2.2.2.l v.1 v.2.1 v.2.2.1 (by rw[e2];simp;omega) U U h3 (λe he=>h4 e (e5 e he)) (λ_=>Bv) (by rw[e2];simp)
theorem ajw (h:cQ g more) (hN:g.m.W*g.m.H<=1600) (f:ko) (M:dO) {goal:Int} (hg:bV g.m goal):Ok (f_.f f goal M g) (λr=> ∀c,bt r c=true->0<=aP r c/\aP r c<=500000):=by
 unfold f_.f;refine Ok.eq (B0 g) (Ok.eq (sU h _) (Ok.ite (λ_=>Ok.pure (by simp[bt,cN])) λq=>?_))
 have hu:nG g []<=1600:=by unfold nG;have:=ES (λc=>!bt ([]:List (Int×Int)) c) (g.m.W*g.m.H).toNat;omega
 refine(FI ⟨[]⟩ 0 goal aX).bind λr hr=>(FH r (by simp at hr;omega)).bind λv hv=>?_
 have ho:r8 g goal:=⟨hg,by simpa using q⟩
 have tc: ∀e∈r.l,e=⟨0,goal⟩:=λe he=>by simpa using(hr.2 e).1 he
 have hlen:r.l.length=1:=by simpa using hr.1
 rcases hv with⟨e1,e2⟩ |⟨e1,e2,e3,e4,e5,e6⟩
 ·rw[e1] at hlen;simp at hlen
 ·have h0:=tc _ (dR (a:=r.l) (i:=0) U U);rw[h0] at e3;simp only[cT.mk.injEq] at e3;have yp:v.2.2.2.l=[]:=List.length_eq_zero_iff.1 U;rw[yp,e3.1,e3.2,e2];exact ak1 h hN goal 9000 fuel [] [] 0 goal true bf (by rw[cI];omega) bf (by simp[bt,cN]) aX (λ_=>⟨ho,by omega,by omega⟩) aX
abbrev dN:Int:=2147483647
abbrev RB:Int:=104538400
def sv (f:Int->Int):Nat->Int
 |0=>0
 |n+1=>sv f n+f n
theorem YY {f:Int->Int} {B:Int}: ∀(n:Nat),(∀i:Int,0<=i->i<n->f i<=B)->sv f n<=n*B
 |0,_=>by simp[sv]
 |n+1,h=>by
  have:=YY n (λi a b=>h i a U);have:=h n U U;rw[sv,Int.natCast_add,Int.add_mul,Int.natCast_one,Int.one_mul];omega
theorem YZ {f:Int->Int}: ∀(n:Nat),(∀i:Int,0<=i->i<n->0<=f i)->0<=sv f n
 |0,_=>dU _
 |n+1,h=>by
  have:=YZ n (λi a b=>h i a U);have:=h n U U;rw[sv];omega
theorem YW {f f':Int->Int}: ∀(n:Nat),(∀i:Int,0<=i->i<n->f' i=f i)->sv f' n=sv f n
 |0,_=>rfl
 |n+1,h=>by rw[sv,sv,YW n (λi a b=>h i a U),h n U U]
theorem YX {f f':Int->Int} {c:Int}: ∀(n:Nat),0<=c->c<n->f' c+1<=f c->(∀i:Int,0<=i->i<n->i≠c->f' i=f i)->sv f' n+1<=sv f n
 |0,h0,h1,_,_=>by omega
 |n+1,h0,h1,hd,he=>by
  rw[sv,sv]
  by_cases z:c=n
  ·subst z;rw[YW n (λi a b=>he i a U U)];omega
  ·have:=YX n h0 U hd (λi a b=>he i a U);rw[he n U U (λy=>z y.symm)];omega
theorem NQ {p q:Int->Bool}: ∀{n:Nat},(∀i:Int,0<=i->i<n->p i=true->q i=true)->fg p n<=fg q n
 |0,_=>l7 _
 |n+1,h=>by
  have:=NQ (p:=p) (q:=q) (n:=n) (λi a b=>h i a U);unfold fg;have h':=h n U U
  cases hp:p n
  ·simp;omega
  ·rw[h' hp];simp;omega
theorem SZ {p q:Int->Bool} {c:Int}: ∀{n:Nat},0<=c->c<n->p c=false->q c=true->(∀i:Int,0<=i->i<n->p i=true->q i=true)->fg p n+1<=fg q n
 |0,h0,h1,_,_,_=>by omega
 |n+1,h0,h1,hp,hq,he=>by
  unfold fg
  by_cases z:c=n
  ·subst z;have:=NQ (p:=p) (q:=q) (n:=n) (λi a b=>he i a U);rw[hp,hq];simp;omega
  ·have:=SZ (n:=n) h0 U hp hq (λi a b=>he i a U);have h':=he n U U
   cases hp':p n
   ·simp;omega
   ·rw[h' hp'];simp;omega
def Aw (D:List Int) (v:Int):Nat:=fg (λc=>decide (rd D c<v)) D.length
def oS (D:List Int):Int:=sv (λc=>min (rd D c) (RB+1)) D.length
section
variable {g : bx} {more : Int} {M : dO} {goal : Int} {im : List (Int × Int)}
def Pv (g:bx) (goal:Int) (im:List (Int×Int)) (D:List Int) (c d:Int):Prop:=
 (c∈bO g.m (aQ g.m.W g.m.H goal)/\bt im c=true/\aP im c=d)∨ ∃b e,node g.m b/\rd D b≠dN/\Comes g.m b e/\e.To=c/\rd D b+e.kP<=d
structure Rt (g:bx) (goal:Int) (im:List (Int×Int)) (D:List Int) (l:List cT) (x:Int):Prop where
 len_:(D.length:Int)=g.m.W*g.m.H
 dv: ∀c:Int,0<=c->c<D.length->rd D c≠dN->node g.m c/\0<=rd D c/\rd D c<=500000+65024*(Aw D (rd D c):Int)/\Pv g goal im D c (rd D c)
 hp: ∀e∈l,node g.m e.item/\rd D e.item≠dN/\rd D e.item<=e.key
 rel: ∀c,node g.m c->c≠x->rd D c≠dN->⟨rd D c,c⟩∈l∨ ∀e,Comes g.m c e->rd D e.To≠dN/\rd D e.To<=rd D c+e.kP
theorem Yf (D:List Int) (v:Int):Aw D v<=D.length:=ES _ _
theorem Rt.bound {D:List Int} {l:List cT} {x:Int} (hN:g.m.W*g.m.H<=1600) (h:Rt g goal im D l x) {c:Int} (c0:0<=c) (c1:c<D.length) (hc:rd D c≠dN):0<=rd D c/\rd D c<=RB:=by
 have zS:RB=104538400:=rfl;obtain⟨_,a,b,_⟩:=h.dv c c0 c1 hc;have:=Yf D (rd D c);have:=h.len_;omega
theorem uB (h:cQ g more) {D:List Int} (hl:(D.length:Int)=g.m.W*g.m.H) {c:Int} (hc:node g.m c):0<=c/\c<D.length:=by
 have:=(yM hc).2;rw[hl];exact this
theorem XI {D D':List Int} (hd: ∀b,node g.m b->rd D b≠dN->rd D' b≠dN/\rd D' b<=rd D b) {c d:Int} (h:Pv g goal im D c d):Pv g goal im D' c d:=by
 rcases h with z |⟨b,e,h1,h2,h3,h4,h5⟩
 ·exact .inl z
 ·have:=hd b h1 h2;exact .inr ⟨b,e,h1,this.1,h3,h4,by omega⟩
theorem ain {D:List Int} (hD: ∀c:Int,0<=c->c<D.length->0<=rd D c):0<=oS D/\oS D<=D.length*(RB+1):=by
 refine⟨YZ _ λi a b=>?_,YY _ λi a b=>by omega⟩
 have:=hD i a b;have zS:RB=104538400:=rfl;omega
theorem Yh (h:cQ g more) (hN:g.m.W*g.m.H<=1600) {D:List Int} {l:List cT} {x:Int} (hr:Rt g goal im D l x) (hlen:l.length+2*oS D<1000000000000) {v nd ge:Int} (gg ep:Int) (hv:node g.m v) (hx:v≠x) (n0:0<=nd) (n1:nd<=500000+65024*(Aw D nd:Int)) (hp:Pv g goal im D v nd):
 Ok (uG.f ⟨gg,ep,D⟩ v nd) (λr=>(r=(false,⟨gg,ep,D⟩)/\rd D v≠dN/\rd D v<=nd)∨ ∃D',r=(true,⟨gg,ep,D'⟩)/\oS D'+1<=oS D/\rd D' v=nd/\(∀c:Int,0<=c->c≠v->rd D' c=rd D c)/\nd<rd D v/\D'.length=D.length/\
  ∀l':List cT,(∀e,e∈l'↔e∈l∨e=⟨nd,v⟩)->Rt g goal im D' l' x):=by
 have hF:dN=2147483647:=rfl;have zS:RB=104538400:=rfl;have Bx:=uB h hr.len_ hv;have hrk:=Yf D nd;have Da:=hr.len_;have hvb:rd D v=dN∨(0<=rd D v/\rd D v<=RB):=by
  by_cases z:rd D v=dN
  ·exact .inl z
  ·exact .inr (hr.bound hN Bx.1 Bx.2 z)
 unfold uG.f;simp only;rw[ag Bx,wi U U];refine Ok.ite (λq=>Ok.pure (.inl ⟨J,by omega,by omega⟩)) λq=>?_
 rw[Wm U U];have eD: ∀c:Int,0<=c->rd (aG D v.toNat nd) c=if c=v then nd else rd D c:=λc c0=>lR Bx.1 Bx.2 c0
 have Fq:rd (aG D v.toNat nd) v=nd:=by rw[eD v Bx.1,ag J]
 have hle: ∀c:Int,0<=c->rd (aG D v.toNat nd) c<=rd D c:=λc c0=>by
  rw[eD c c0];split
  ·rename_i z;rw[z];omega
  ·omega
 have hnf: ∀c:Int,0<=c->rd D c≠dN->rd (aG D v.toNat nd) c≠dN:=λc c0 hc=>by
  rw[eD c c0];split
  ·omega
  ·exact hc
 have Lj: ∀b,node g.m b->rd D b≠dN->rd (aG D v.toNat nd) b≠dN/\rd (aG D v.toNat nd) b<=rd D b:=λb hb hf=>by
  have:=uB h hr.len_ hb;exact⟨hnf b this.1 hf,hle b this.1⟩
 have VU: ∀w,Aw D w<=Aw (aG D v.toNat nd) w:=λw=>by
  unfold Aw;rw[mo];refine NQ λi a b c=>?_
  have:=hle i a;simp only[decide_eq_true_iff] at c⊢;omega
 refine Ok.pure (.inr ⟨_,J,?_,Fq,λc c0 hc=>by rw[eD c c0,ah hc],by omega,by simp,λl' z_=>?_⟩)
 ·unfold oS;rw[mo];refine YX D.length Bx.1 Bx.2 ?_ λi a b hi=>?_
  ·rw[Fq];omega
  ·rw[eD i a,ah hi]
 ·refine⟨by simpa using hr.len_,λc c0 c1 hc=>?_,λe he=>?_,λc hc ym hf=>?_⟩
  ·rw[mo] at c1
   by_cases z:c=v
   ·subst z;rw[Fq];have:=VU nd;exact⟨hv,n0,by omega,XI Lj hp⟩
   ·rw[eD c c0,ah z] at hc⊢;obtain⟨a1,a2,a3,a4⟩:=hr.dv c c0 c1 hc;have:=VU (rd D c);exact⟨a1,a2,by omega,XI Lj a4⟩
  ·rcases(z_ e).1 he with z |rfl
   ·obtain⟨b1,b2,b3⟩:=hr.hp e z;have:=Lj _ b1 b2;exact⟨b1,this.1,by omega⟩
   ·exact⟨hv,by simp only;rw[Fq];omega,by simp only;rw[Fq];omega⟩
  ·have vq:=uB h hr.len_ hc
   by_cases z:c=v
   ·subst z;rw[Fq];exact .inl ((z_ _).2 (.inr J))
   ·rw[eD c vq.1,ah z] at hf⊢;rcases hr.rel c hc ym hf with y |y
    ·exact .inl ((z_ _).2 (.inl y))
    ·refine .inr λe he=>?_
     obtain⟨q1,q2⟩:=y e he;have:=Lj _ (GY h hc he).1 q1;exact⟨this.1,by omega⟩
theorem D7 (hN:g.m.W*g.m.H<=1600) {D:List Int} {l:List cT} {x:Int} (hr:Rt g goal im D l x):0<=oS D/\oS D<=200000000000:=by
 have hF:dN=2147483647:=rfl;have zS:RB=104538400:=rfl;have hl:=hr.len_;have:=ain (D:=D) λc c0 c1=>by
  by_cases z:rd D c=dN
  ·omega
  ·exact(hr.bound hN c0 c1 z).1
 have:(D.length:Int)*(RB+1)<=1600*(RB+1):=Cw U U;omega
theorem ajN (h:cQ g more) (hN:g.m.W*g.m.H<=1600) (gg ep gl:Int) {b key:Int} (hb:node g.m b) (E:List eJ) (hE: ∀e∈E,Comes g.m b e) (hEb:E.length<=260): ∀(n k:Nat) (D:List Int) (l:List cT) (i:Int),(E.length-i).toNat<=n->n<k->0<=i->i<=E.length->Rt g goal im D l b->rd D b=key->key≠dN->l.length+2*oS D+(E.length-i)<1000000000000->
 (∀j:Int,0<=j->j<i->rd D (rd E j).To≠dN/\rd D (rd E j).To<=key+(rd E j).kP)->
 Ok (gv.l2 k gl key E gg ep D l i) (λr=>r.1=gg/\r.2.1=ep/\Rt g goal im r.2.2.1 r.2.2.2 b/\rd r.2.2.1 b=key/\r.2.2.2.length+2*oS r.2.2.1<=l.length+2*oS D/\(∀e∈E,rd r.2.2.1 e.To≠dN/\rd r.2.2.1 e.To<=key+e.kP)/\ ∀c,node g.m c->rd D c≠dN->rd r.2.2.1 c≠dN/\rd r.2.2.1 c<=rd D c):=by
 have hF:dN=2147483647:=rfl;have zS:RB=104538400:=rfl;have fin: ∀(k:Nat) (D:List Int) (l:List cT) (i:Int),¬i<E.length->Rt g goal im D l b->rd D b=key->(∀j:Int,0<=j->j<i->rd D (rd E j).To≠dN/\rd D (rd E j).To<=key+(rd E j).kP)->
  Ok (gv.l2 (k+1) gl key E gg ep D l i) (λr=>r.1=gg/\r.2.1=ep/\Rt g goal im r.2.2.1 r.2.2.2 b/\rd r.2.2.1 b=key/\r.2.2.2.length+2*oS r.2.2.1<=l.length+2*oS D/\(∀e∈E,rd r.2.2.1 e.To≠dN/\rd r.2.2.1 e.To<=key+e.kP)/\ ∀c,node g.m c->rd D c≠dN->rd r.2.2.1 c≠dN/\rd r.2.2.1 c<=rd D c):=λk D l i hi hr hk ha=>by
  rw[gv.l2,ah hi];refine Ok.pure ⟨J,J,hr,hk,dU _,λe he=>?_,λc _ hc=>⟨hc,dU _⟩⟩
  obtain⟨j,j0,j1,rfl⟩:=ka he;exact ha j j0 U
 intro n
 induction n with
 |zero=>
  intro k D l i hn hk hi dK hr kI Bt hlen ha;obtain⟨k,rfl⟩:=bl hk;exact fin k D l i U hr kI ha
 |succ n ih=>
  intro k D l i hn hk hi dK hr kI Bt hlen ha;obtain⟨k,rfl⟩:=bl hk
  by_cases aS:i<E.length
  ·have jE:=dR hi aS;have wL:=hE _ jE;obtain⟨c1,c2,c3,c4⟩:=GY h hb wL;have vn:=uB h hr.len_ hb;obtain⟨d1,d2,d3,d4⟩:=hr.dv b vn.1 vn.2 (by rw[kI];exact Bt)
   have HC:=hr.bound hN vn.1 vn.2 (by rw[kI];exact Bt)
   rw[kI] at d2 d3 d4 HC;have Ou:KT=65024:=rfl;have Fo:=D7 hN hr;have hrk:Aw D key+1<=Aw D (key+(rd E i).kP):=by
    unfold Aw;refine SZ vn.1 vn.2 (by rw[kI];simp) (by rw[kI];simp;omega) λc _ _ hc=>?_
    simp only[decide_eq_true_iff] at hc⊢;omega
   rw[gv.l2,wi (x:=key+(rd E i).kP) U U,wi (x:=i+1) U U];refine Ok.pos aS (Ok.cz ⟨hi,aS⟩ ((Yh (ge:=0) h hN hr U gg ep c1 c2 U U (.inr ⟨b,_,hb,by rw[kI];exact Bt,wL,J,by rw[kI];omega⟩)).bind λr oK=>?_))
   rcases oK with⟨rfl,z1,z2⟩ |⟨D',rfl,z1,z2,z3,z4,z5,z6⟩
   ·refine Ok.neg aX (ih k D l (i+1) U U U U hr kI Bt U λj j0 j1=>?_)
    by_cases z:j=i
    ·subst z;exact⟨z1,z2⟩
    ·exact ha j j0 U
   ·refine Ok.pos J ((FI ⟨l⟩ _ _ (by simp only;omega)).bind λq hq=>?_)
    have PA:=z6 q.l hq.2;have jR:rd D' b=key:=by rw[z3 b vn.1 (λy=>c2 y.symm),kI]
    have HW:=hq.1;simp only at HW;refine(ih k D' q.l (i+1) U U U U PA jR Bt U λj j0 j1=>?_).mono λr Dj=>⟨Dj.1,Dj.2.1,Dj.2.2.1,Dj.2.2.2.1,by have:=Dj.2.2.2.2.1;omega,Dj.2.2.2.2.2.1,λc hc rM=>?_⟩
    rotate_left
    ·have vq:=uB h hr.len_ hc;have hd:rd D' c≠dN/\rd D' c<=rd D c:=by
      by_cases y:c=(rd E i).To
      ·rw[y,z2];rw[y] at rM;have:=hr.bound hN (y▸vq.1) (y▸vq.2) rM;exact⟨by omega,by omega⟩
      ·rw[z3 c vq.1 y];exact⟨rM,dU _⟩
     have:=Dj.2.2.2.2.2.2 c hc hd.1;exact⟨this.1,by omega⟩
    by_cases y:(rd E j).To=(rd E i).To
    ·rw[y,z2]
     by_cases z:j=i
     ·subst z;exact⟨by omega,dU _⟩
     ·have w:=(ha j j0 U).2;rw[y] at w;exact⟨by omega,by omega⟩
    ·have hj:=GY h hb (hE _ (dR j0 (show j<E.length by omega)))
     have:=uB h hr.len_ hj.1;rw[z3 _ this.1 y];refine ha j j0 ?_;have:j≠i:=λz=>y (by rw[z])
     omega
  ·exact fin k D l i aS hr kI ha
structure Gp (g:bx) (goal:Int) (im:List (Int×Int)) (D:List Int):Prop where
 len_:(D.length:Int)=g.m.W*g.m.H
 dv: ∀c:Int,0<=c->c<D.length->rd D c≠dN->node g.m c/\0<=rd D c/\rd D c<=RB/\Pv g goal im D c (rd D c)
 rel: ∀c,node g.m c->rd D c≠dN-> ∀e,Comes g.m c e->rd D e.To≠dN/\rd D e.To<=rd D c+e.kP
 sd: ∀c∈bO g.m (aQ g.m.W g.m.H goal),bt im c=true->rd D c≠dN/\rd D c<=aP im c
theorem Yw (h:cQ g more) (hN:g.m.W*g.m.H<=1600) (hF':rB g M) (gg ep gl:Int): ∀(n k:Nat) (D:List Int) (l:List cT) (key b:Int) (ok:Bool),(l.length+2*oS D+(if ok then 1 else 0)).toNat<=n->n<k->l.length+2*oS D<999999990000->
 (ok=true->Rt g goal im D (⟨key,b⟩::l) (-1))->(ok=false->l=[]/\Rt g goal im D [] (-1))->(∀c∈bO g.m (aQ g.m.W g.m.H goal),bt im c=true->rd D c≠dN/\rd D c<=aP im c)->
 Ok (gv.l1 k gl M g gg ep D l key b ok) (λr=> ∃D',r=some ⟨gg,ep,D'⟩/\Gp g goal im D'):=by
 have Oq:dN=2147483647:=rfl;have zS:RB=104538400:=rfl;have fin: ∀(k:Nat) (D:List Int) (l:List cT) (key b:Int) (ok:Bool),ok=false->Rt g goal im D [] (-1)->(∀c∈bO g.m (aQ g.m.W g.m.H goal),bt im c=true->rd D c≠dN/\rd D c<=aP im c)->Ok (gv.l1 (k+1) gl M g gg ep D l key b ok) (λr=> ∃D',r=some ⟨gg,ep,D'⟩/\Gp g goal im D'):=λk D l key b ok wS hr hs=>by
  subst wS;rw[gv.l1];refine Ok.neg aX (Ok.pure ⟨D,J,hr.len_,λc c0 c1 hc=>?_,λc hc hf e he=>?_,hs⟩)
  ·obtain⟨a,b,_,d⟩:=hr.dv c c0 c1 hc;exact⟨a,b,(hr.bound hN c0 c1 hc).2,d⟩
  ·have:=uB h hr.len_ hc;exact((hr.rel c hc U hf).resolve_left aX) e he
 intro n
 induction n with
 |zero=>
  intro k D l key b ok hn hk hlen hp hf hs;obtain⟨k,rfl⟩:=bl hk
  cases ok
  ·exact fin k D l key b false J (hf J).2 hs
  ·have:=D7 hN (hp J);simp only[if_true] at hn;omega
 |succ n ih=>
  intro k D l key b ok hn hk hlen hp hf hs;obtain⟨k,rfl⟩:=bl hk
  cases ok
  ·exact fin k D l key b false J (hf J).2 hs
  have hr:=hp J;simp only[if_true] at hn;have hph:=D7 hN hr;obtain⟨b1,b2,b3⟩:=hr.hp ⟨key,b⟩ (jj ..);simp only at b1 b2 b3;have vn:=uB h hr.len_ b1;have HC:=hr.bound hN vn.1 vn.2 b2;rw[gv.l1];refine Ok.pos J (Ok.bind (P:=λr=>r.1=gg/\r.2.1=ep/\Rt g goal im r.2.2.1 r.2.2.2 (-1)/\r.2.2.2.length+2*oS r.2.2.1<=l.length+2*oS D/\ ∀c∈bO g.m (aQ g.m.W g.m.H goal),bt im c=true->rd r.2.2.1 c≠dN/\rd r.2.2.1 c<=aP im c) (Ok.cz vn ?_) λr oK=>?_)
  ·rw[wi U U];refine Ok.ite (λq=>Ok.pure ⟨J,J,⟨hr.len_,hr.dv,λe he=>hr.hp e (j6 _ he),λc hc ym rM=>?_⟩,dU _,hs⟩) λq=>?_
   ·rcases hr.rel c hc ym rM with y |y
    ·rcases List.mem_cons.1 y with y |y
     ·simp only[cT.mk.injEq] at y;rw[y.2] at y;omega
     ·exact .inl y
    ·exact .inr y
   ·have kI:rd D b=key:=U;have Bv:Rt g goal im D l b:=⟨hr.len_,hr.dv,λe he=>hr.hp e (j6 _ he),λc hc ym rM=>by
     have:=uB h hr.len_ hc;rcases hr.rel c hc U rM with y |y
     ·rcases List.mem_cons.1 y with y |y
      ·simp only[cT.mk.injEq] at y;exact absurd y.2 ym
      ·exact .inl y
     ·exact .inr y⟩
    refine(agv h hF' b).bind λE hE=>?_
    obtain⟨hE1,Hf⟩:=hE;have Uf:=(Hf.resolve_right λz=>z.1 b1).2;refine(ajN h hN gg ep gl b1 E (λe he=>(Uf e).1 he) hE1 260 fuel D l 0 U (by rw[cI];omega) U U Bv kI U U (λj j0 j1=>by omega)).mono λr PA=>?_
    obtain⟨s1,s2,s3,s4,s5,s6,s7⟩:=PA;refine⟨s1,s2,⟨s3.len_,s3.dv,s3.hp,λc hc ym rM=>?_⟩,s5,λc hc hm=>?_⟩
    ·by_cases z:c=b
     ·subst z;exact .inr λe he=>by rw[s4];exact s6 e ((Uf e).2 he)
     ·exact s3.rel c hc z rM
    ·have w:=hs c hc hm;have:=s7 c (L7 hc) w.1;exact⟨this.1,by omega⟩
  ·obtain⟨q1,q2,q3,q4,q5⟩:=oK;obtain⟨r1,r2,D',l'⟩:=r;simp only at q1 q2 q3 q4 q5⊢;subst q1;subst q2;have alD:=D7 hN q3;refine(FH ⟨l'⟩ (by simp only;omega)).bind λv hv=>?_
   rcases hv with⟨e1,e2⟩ |⟨e1,e2,e3,e4,e5,e6⟩
   ·simp only at e1;subst e1;subst e2;exact ih k D' [] 0 0 false (by simp only[tY] at*;simp;omega) U (by simp;simp at q4;omega) aX (λ_=>⟨J,q3⟩) q5
   ·simp only at e1 e3 e4 e5 e6;rw[e2];refine ih k D' v.2.2.2.l v.1 v.2.1 true (by simp only[if_true];omega) U U (λ_=>?_) aX q5
    rw[e3];have h0:=dR (a:=l') (i:=0) U (by have:=List.length_pos_iff.2 e1;omega)
    refine⟨q3.len_,q3.dv,λe he=>?_,λc hc ym rM=>?_⟩
    ·rcases List.mem_cons.1 he with rfl |he
     ·exact q3.hp _ h0
     ·exact q3.hp e (e5 e he)
    ·rcases q3.rel c hc ym rM with y |y
     ·refine .inl ?_;rcases e6 _ y with z |z
      ·rw[z];exact jj ..
      ·exact j6 _ z
     ·exact .inr y
end
section
variable {g : bx} {more : Int} {M : dO} {goal : Int} {im : List (Int × Int)}
theorem ajM (h:cQ g more) (hN:g.m.W*g.m.H<=1600) (hF:rB g M) (Lf: ∀c,bt im c=true->0<=aP im c/\aP im c<=500000) (gg ep:Int) (L:List Int) (hL:L=bO g.m (aQ g.m.W g.m.H goal)): ∀(n k:Nat) (D:List Int) (l:List cT) (i:Int),(L.length-i).toNat<=n->n<k->0<=i->i<=L.length->Rt g goal im D l (-1)->l.length+2*oS D+(L.length-i)<999999990000->
 (∀j:Int,0<=j->j<i->bt im (rd L j)=true->rd D (rd L j)≠dN/\rd D (rd L j)<=aP im (rd L j))->
 Ok (gv.l0 k goal M g im L gg ep D l i) (λr=> ∃D',r=some ⟨gg,ep,D'⟩/\Gp g goal im D'):=by
 have Oq:dN=2147483647:=rfl;have hlN:L.length<=256:=by rw[hL];exact xa ..
 have fin: ∀(k:Nat) (D:List Int) (l:List cT) (i:Int),¬i<L.length->Rt g goal im D l (-1)->l.length+2*oS D<999999990000->(∀j:Int,0<=j->j<i->bt im (rd L j)=true->rd D (rd L j)≠dN/\rd D (rd L j)<=aP im (rd L j))->
  Ok (gv.l0 (k+1) goal M g im L gg ep D l i) (λr=> ∃D',r=some ⟨gg,ep,D'⟩/\Gp g goal im D'):=λk D l i hi hr hlen ha=>by
  rw[gv.l0,ah hi];have Fo:=D7 hN hr;have Lt: ∀c∈bO g.m (aQ g.m.W g.m.H goal),bt im c=true->rd D c≠dN/\rd D c<=aP im c:=λc hc hm=>by
   rw[<-hL] at hc;obtain⟨j,j0,j1,rfl⟩:=ka hc;exact ha j j0 U hm
  refine(FH ⟨l⟩ (by simp only;omega)).bind λv hv=>?_
  rcases hv with⟨e1,e2⟩ |⟨e1,e2,e3,e4,e5,e6⟩
  ·simp only at e1;subst e1;subst e2;exact Yw h hN hF gg ep goal 1000000000000 fuel D [] 0 0 false bf (by rw[cI];omega) (by simp;simp at hlen;omega) aX (λ_=>⟨J,hr⟩) Lt
  ·simp only at e1 e3 e4 e5 e6;rw[e2];refine Yw h hN hF gg ep goal 1000000000000 fuel D v.2.2.2.l v.1 v.2.1 true (by simp only[if_true];omega) (by rw[cI];omega) U (λ_=>?_) aX Lt
   rw[e3];have h0:=dR (a:=l) (i:=0) U (by have:=List.length_pos_iff.2 e1;omega)
   refine⟨hr.len_,hr.dv,λe he=>?_,λc hc ym rM=>?_⟩
   ·rcases List.mem_cons.1 he with rfl |he
    ·exact hr.hp _ h0
    ·exact hr.hp e (e5 e he)
   ·rcases hr.rel c hc ym rM with y |y
    ·refine .inl ?_;rcases e6 _ y with z |z
     ·rw[z];exact jj ..
     ·exact j6 _ z
    ·exact .inr y
 intro n
 induction n with
 |zero=>
  intro k D l i hn hk hi dK hr hlen ha;obtain⟨k,rfl⟩:=bl hk;exact fin k D l i U hr U ha
 |succ n ih=>
  intro k D l i hn hk hi dK hr hlen ha;obtain⟨k,rfl⟩:=bl hk
  by_cases aS:i<L.length
  ·have jE:rd L i∈bO g.m (aQ g.m.W g.m.H goal):=by rw[<-hL];exact dR hi aS
   have VQ:=L7 jE;have Fo:=D7 hN hr;rw[gv.l0,wi (x:=i+1) U U];refine Ok.pos aS ?_;rw[ag (show 0<=i/\i<(L.length:Int) from⟨hi,aS⟩)]
   cases hm:bt im (rd L i)
   ·simp only[gj,if_false,aD];refine ih k D l (i+1) U U U U hr U λj j0 j1 hj=>?_
    by_cases z:j=i
    ·subst z;rw[hm] at hj;simp at hj
    ·exact ha j j0 U hj
   ·have hv:=Lf _ hm;simp only[if_true];have hrx:=Yh (ge:=0) h hN hr U gg ep VQ (by have:=uB h hr.len_ VQ;omega) hv.1 U (.inl ⟨jE,hm,J⟩)
    obtain⟨r,e,oK⟩:=hrx;rw[e];simp only[aD];rcases oK with⟨rfl,z1,z2⟩ |⟨D',rfl,z1,z2,z3,z4,z5,z6⟩
    ·simp only[gj,if_false,aD];refine ih k D l (i+1) U U U U hr U λj j0 j1 hj=>?_
     by_cases z:j=i
     ·subst z;exact⟨z1,z2⟩
     ·exact ha j j0 U hj
    ·simp only[if_true];obtain⟨q,eq,hq⟩:=FI ⟨l⟩ (aP im (rd L i)) (rd L i) (by simp only;omega)
     rw[eq];simp only[aD];have HW:=hq.1;simp only at HW;refine ih k D' q.l (i+1) U U U U (z6 q.l hq.2) U λj j0 j1 hj=>?_
     by_cases y:rd L j=rd L i
     ·rw[y,z2];exact⟨by omega,dU _⟩
     ·have hjm:rd L j∈bO g.m (aQ g.m.W g.m.H goal):=by rw[<-hL];exact dR j0 U
      have:=uB h hr.len_ (L7 hjm);rw[z3 _ this.1 y];refine ha j j0 ?_ hj;have:j≠i:=λz=>y (by rw[z])
      omega
  ·exact fin k D l i aS hr U ha
def RM (g:bx) (goal:Int) (im:List (Int×Int)):Prop:=(∀f M,f_.f f goal M g=some im)/\ ∀c,bt im c=true->0<=aP im c/\aP im c<=500000
def qD (g:bx) (r:hJ):Prop:=r.bS=g.bS/\ ∃im,RM g r.goal im/\Gp g r.goal im r.aR
theorem ajL (h:cQ g more) (hN:g.m.W*g.m.H<=1600) (hF:rB g M) (f:ko) (hg:bV g.m goal):Ok (gv.f f goal M g) (λr=> ∃R,r=some R/\R.goal=goal/\qD g R):=by
 have Oq:dN=2147483647:=rfl;have zS:RB=104538400:=rfl;have hmp:=rW h.ok.1;unfold gv.f;obtain⟨im,e,Lf⟩:=ajw h hN f M hg;have agj:RM g goal im:=⟨λf' M'=>e,Lf⟩
 have hs:=o0 (ir h.ok hg);refine Ok.eq (B0 g) (Ok.eq (G6 g) ?_);simp only;rw[wi U U];have HY:=aja (v:=dN) (n:=(g.m.W*g.m.H).toNat) U U;rw[show(((g.m.W*g.m.H).toNat:Nat):Int)=g.m.W*g.m.H by omega] at HY
 refine Ok.eq HY (Ok.eq (v:=some ⟨[]⟩) J ?_);refine Ok.eq e (Ok.eq (si ..) (Ok.eq (ah4 hF _ hs) ?_));have VD: ∀c:Int,0<=c->c<(g.m.W*g.m.H).toNat->rd (cy (g.m.W*g.m.H).toNat dN) c=dN:=λc c0 c1=>uC c0 c1
 have hR:Rt g goal im (cy (g.m.W*g.m.H).toNat dN) [] (-1):=by
  refine⟨by simp;omega,λc c0 c1 hc=>?_,by simp,λc hc _ rM=>?_⟩
  ·rw[List.length_replicate] at c1;exact absurd (VD c c0 c1) hc
  ·have:=(yM hc).2;exact absurd (VD c this.1 (by have:=this.2;omega)) rM
 have hph:=D7 hN hR;have Lo:=xa g.m (aQ g.m.W g.m.H goal);refine(ajM h hN hF Lf goal g.bS _ J 256 fuel _ [] 0 U (by rw[cI];omega) U U hR bf (λj j0 j1=>by omega)).mono λr hr=>?_
 obtain⟨D',rfl,hD⟩:=hr;exact⟨_,J,J,J,im,agj,hD⟩
structure MT (g:bx) (f:ko):Prop where
 kept: ∀R,f.kept=some R->bV g.m R.goal/\R.bS<=g.bS/\(R.bS=g.bS->qD g R)
 fg:0<=f.count/\f.count<=1000000000000
def Wy (g:bx) (f:ko) (goal:Int):Prop:= ∃R,f.kept=some R/\R.goal=goal/\R.bS=g.bS
theorem ajb (h:cQ g more) (hN:g.m.W*g.m.H<=1600) (hv: ∀s:Int,bE g.m.W g.m.H s->fU g s<=g.bS) {f:ko} (hf:MT g f) (hM:A8 g M) (hc:M.count+4096<=1000000000000) (Pg:f.count+1<=1000000000000) (hg:bV g.m goal):
 Ok (yU.f f goal M g) (λr=> ∃R,r.1=some R/\R.goal=goal/\qD g R/\r.2.1.kept=some R/\MT g r.2.1/\f.count<=r.2.1.count/\r.2.1.count<=f.count+1/\(Wy g f goal->r.2.1=f)/\rB g r.2.2/\r.2.2.clean=g.bS/\r.2.2.count=M.count+(qJ g M M.parts.length).length):=by
 have Fc:=Ha h hg;unfold yU.f;refine Ok.eq (sU h _) (Ok.neg bf ((ai6 h hv hM hc).bind λv PJ=>?_));obtain⟨hF,eU,jD⟩:=PJ;have e:(dA f.kept (some true) (λx5=>if(x5.goal !=goal)=true then(some true) else((pY.f g).bind λv6=>some (x5.bS !=v6))))=some (match f.kept with |none=>true |some R=>(R.goal !=goal||R.bS !=g.bS)):=by
  cases f.kept with
  |none=>rfl
  |some R=>
   show(if(R.goal !=goal)=true then _ else _)=some (R.goal !=goal||R.bS !=g.bS)
   by_cases z:R.goal=goal
   ·rw[ah (by simp[z]),G6];simp[z]
   ·rw[ag (by simpa using z)];simp[z]
 refine Ok.eq e (Ok.ite (λq=>?_) λq=>?_)
 ·refine(ajL h hN hF f hg).bind λr hr=>?_
  obtain⟨R,rfl,r1,r2⟩:=hr;have aly:=hf.fg;refine Ok.eq (v:=f.count+1) (AO U U U U) (Ok.pure ⟨R,rfl,r1,r2,rfl,⟨λR' KW=>?_,?_⟩,?_,?_,λ⟨R',k1,k2,k3⟩=>?_,hF,eU,jD⟩)
  ·simp only[Option.some.injEq] at KW;subst KW;exact⟨by rw[r1];exact hg,by rw[r2.1];omega,λ_=>r2⟩
  ·simp only;omega
  ·simp only;omega
  ·simp only;omega
  ·rw[k1] at q;simp[k2,k3] at q
 ·cases hk:f.kept with
  |none=>rw[hk] at q;simp at q
  |some R=>
   rw[hk] at q;simp at q;have hkk:=hf.kept R hk;exact Ok.pure ⟨R,J,q.1,hkk.2.2 q.2,hk,hf,dU _,by simp only;omega,λ_=>rfl,hF,eU,jD⟩
theorem aa4 (h:cQ g more) (hN:g.m.W*g.m.H<=1600) {R:hJ} (hR:qD g R) (c:Int):D5.f R c=some (if bV g.m c/\rd R.aR c≠dN then rd R.aR c else cx):=by
 have Oq:dN=2147483647:=rfl;have zS:RB=104538400:=rfl;obtain⟨_,im,_,hD⟩:=hR;have hl:=hD.len_;unfold D5.f;have e:(if c<0 then(some true) else(if c≥(aa R.aR:Int) then(some true) else(if(0<=c/\c<(aa R.aR:Int)) then(some ((rd R.aR c)==2147483647)) else none)))=some (decide (¬(bV g.m c/\rd R.aR c≠dN))):=by
  unfold bV
  by_cases a:c<0
  ·rw[ag a];simp;omega
  ·by_cases b:c≥(aa R.aR:Int)
   ·rw[ah a,ag b];simp;omega
   ·rw[ah a,ah b,ag U];congr 1;rw[qC];simp;omega
 rw[e];simp only[aD]
 by_cases z:bV g.m c/\rd R.aR c≠dN
 ·have hz:=z.1;obtain⟨z0,z1⟩:=hz;have:=hD.dv c z0 U z.2;rw[ah (by simpa using z),ag U,ag z,wi U U]
 ·rw[ag (decide_eq_true z),ah z]
end
section
variable {g : bx} {more : Int} {R : hJ}
def tQ (g:bx) (R:hJ) (c:Int):Int:=if bV g.m c/\rd R.aR c≠dN then rd R.aR c else cx
theorem Kf (hN:g.m.W*g.m.H<=1600) (hR:qD g R) {c:Int} (hc:tQ g R c≠cx):bV g.m c/\rd R.aR c≠dN/\tQ g R c=rd R.aR c/\0<=tQ g R c/\tQ g R c<=RB:=by
 unfold tQ at hc⊢;split at hc
 ·rename_i z;obtain⟨_,im,_,hD⟩:=hR;have hl:=hD.len_;have hz:=z.1;obtain⟨z0,z1⟩:=hz;have:=hD.dv c z0 U z.2;rw[ag z];exact⟨z.1,z.2,J,this.2.1,this.2.2.1⟩
 ·exact absurd J hc
def va (g:bx) (R:hJ) (c:Int) (e:eJ) (x:a_):Prop:=tQ g R e.To≠cx/\x=⟨cD g.m.W g.m.H c,Ea g.m.W g.m.H c e.To,e.kP+tQ g R e.To⟩
theorem agu (h:cQ g more) (hN:g.m.W*g.m.H<=1600) (hR:qD g R) (L:List Int) (i:Int) (E:List eJ) (hE:E.length<=4) (hEc: ∀e∈E,0<=e.kP/\e.kP<=255) (x0:List a_) (wV:x0.length<=10000): ∀(n k:Nat) (x:List a_) (j:Int),(E.length-j).toNat<=n->n<k->0<=j->j<=E.length->(x.length:Int)<=x0.length+j->
 (∀y,y∈x↔y∈x0∨ ∃q:Int,0<=q/\q<j/\va g R (rd L i) (rd E q) y)->
 Ok (iP.l1 k R (g.m.W,g.m.H) L i E x j) (λr=>r.length<=x0.length+4/\ ∀y,y∈r↔y∈x0∨ ∃e∈E,va g R (rd L i) e y):=by
 have zS:RB=104538400:=rfl;have fin: ∀(k:Nat) (x:List a_) (j:Int),¬j<E.length->j<=E.length->(x.length:Int)<=x0.length+j->(∀y,y∈x↔y∈x0∨ ∃q:Int,0<=q/\q<j/\va g R (rd L i) (rd E q) y)->
  Ok (iP.l1 (k+1) R (g.m.W,g.m.H) L i E x j) (λr=>r.length<=x0.length+4/\ ∀y,y∈r↔y∈x0∨ ∃e∈E,va g R (rd L i) e y):=λk x j hj i_ hl hm=>by
  rw[iP.l1,ah hj];refine Ok.pure ⟨by omega,λy=>(hm y).trans (or_congr_right ⟨λ⟨q,q0,q1,w⟩=>⟨_,dR q0 U,w⟩,λ⟨e,he,w⟩=>?_⟩)⟩
  obtain⟨q,q0,q1,rfl⟩:=ka he;exact⟨q,q0,by omega,w⟩
 intro n
 induction n with
 |zero=>
  intro k x j hn hk hj i_ hl hm;obtain⟨k,rfl⟩:=bl hk;exact fin k x j U i_ hl hm
 |succ n ih=>
  intro k x j hn hk hj i_ hl hm;obtain⟨k,rfl⟩:=bl hk
  by_cases aS:j<E.length
  ·have hc:=hEc _ (dR hj aS);have yr: ∀y,(y∈x0∨ ∃q:Int,0<=q/\q<j+1/\va g R (rd L i) (rd E q) y)↔y∈x∨va g R (rd L i) (rd E j) y:=λy=>by
    rw[hm y];constructor
    ·rintro(a |⟨q,q0,q1,w⟩)
     ·exact .inl (.inl a)
     ·by_cases z:q=j
      ·subst z;exact .inr w
      ·exact .inl (.inr ⟨q,q0,by omega,w⟩)
    ·rintro((a |⟨q,q0,q1,w⟩) |w)
     ·exact .inl a
     ·exact .inr ⟨q,q0,by omega,w⟩
     ·exact .inr ⟨j,hj,by omega,w⟩
   rw[iP.l1,wi (x:=j+1) U U];refine Ok.pos aS (Ok.cz ⟨hj,aS⟩ (Ok.eq (v:=tQ g R (rd E j).To) (aa4 h hN hR _) (Ok.ite (λq=>Ok.eq (Is ..) (Ok.eq (aj5 ..) (Ok.cz U ?_))) λq=>?_)))
   ·have q:tQ g R (rd E j).To≠cx:=by simpa using q
    have ha:=Kf hN hR q;rw[wi U U];refine ih k _ (j+1) U U U U bf λy=>?_
    rw[yr y];unfold va;simp[q]
   ·have q:tQ g R (rd E j).To=cx:=by simpa using q
    refine ih k x (j+1) U U U U U λy=>?_
    rw[yr y];unfold va;simp[q]
  ·exact fin k x j aS i_ hl hm
def we (g:bx) (R:hJ) (s:Int) (x:a_):Prop:=
 (∃c∈bO g.m s,∃e∈uI g.m c,va g R c e x)∨(aQ g.m.W g.m.H R.goal=s/\fh g R.goal≠255/\x=⟨cD g.m.W g.m.H R.goal,4,0⟩)
theorem GZ {m:aJ} {c:Int} {e:eJ} (he:e∈uI m c): ∃d:Int,0<=d/\d<=3/\mM m (fp m.W m.H c d)=true/\e=⟨fp m.W m.H c d,rd m.C (fp m.W m.H c d)⟩:=by
 unfold uI at he;split at he
 ·unfold xo at he;obtain⟨j,hj,rfl⟩:=List.mem_map.1 he;obtain⟨j1,j2⟩:=List.mem_filter.1 hj;have:=List.mem_range.1 j1;exact⟨j,by omega,by omega,j2,J⟩
 ·simp at he
theorem agt (h:cQ g more) (hN:g.m.W*g.m.H<=1600) (hR:qD g R) (s:Int): ∀(n k:Nat) (x:List a_) (i:Int),((bO g.m s).length-i).toNat<=n->n<k->0<=i->i<=(bO g.m s).length->(x.length:Int)<=4*i->
 (∀y,y∈x↔ ∃q:Int,0<=q/\q<i/\ ∃e∈uI g.m (rd (bO g.m s) q),va g R (rd (bO g.m s) q) e y)->
 Ok (iP.l0 k g R s (g.m.W,g.m.H) (bO g.m s) x i) (λr=>r.length<=1025/\(∀y,y∈r↔we g R s y)/\r.Pairwise (λa b=> ¬uJ b a)):=by
 have hl:=xa g.m s;have fin: ∀(k:Nat) (x:List a_) (i:Int),¬i<(bO g.m s).length->i<=(bO g.m s).length->(x.length:Int)<=4*i->(∀y,y∈x↔ ∃q:Int,0<=q/\q<i/\ ∃e∈uI g.m (rd (bO g.m s) q),va g R (rd (bO g.m s) q) e y)->
  Ok (iP.l0 (k+1) g R s (g.m.W,g.m.H) (bO g.m s) x i) (λr=>r.length<=1025/\(∀y,y∈r↔we g R s y)/\r.Pairwise (λa b=> ¬uJ b a)):=λk x i hi dK hx hm=>by
  rw[iP.l0,ah hi];have qR: ∀y,y∈x↔ ∃c∈bO g.m s,∃e∈uI g.m c,va g R c e y:=λy=>(hm y).trans ⟨λ⟨q,q0,q1,w⟩=>⟨_,dR q0 U,w⟩,λ⟨c,hc,w⟩=>by
   obtain⟨q,q0,q1,rfl⟩:=ka hc;exact⟨q,q0,by omega,w⟩⟩
  refine Ok.eq (v:=R.goal) J (Ok.eq (v:=decide (aQ g.m.W g.m.H R.goal=s/\fh g R.goal≠255)) ?_ (Ok.ite (λq=>?_) λq=>?_))
  ·simp only[si,aD]
   by_cases z:aQ g.m.W g.m.H R.goal=s
   ·rw[ag (by simpa using z),sU h];simp[z];rw[qC];simp
   ·rw[ah (by simpa using z)];simp[z]
  ·have q:=of_decide_eq_true q;refine Ok.eq (Is ..) (Ok.cz U ((Q4 _ bf).bind λr hr=>Ok.pure ⟨by have:=hr.1;simp at this;omega,λy=>?_,hr.2.2⟩))
   rw[hr.2.1 y,List.mem_append,qR y];unfold we;simp[q.1,q.2]
  ·have q: ¬(aQ g.m.W g.m.H R.goal=s/\fh g R.goal≠255):=by simpa using q
   refine(Q4 _ U).bind λr hr=>Ok.pure ⟨by omega,λy=>?_,hr.2.2⟩
   rw[hr.2.1 y,qR y];unfold we;exact⟨.inl,λw=>w.resolve_right λz=>q ⟨z.1,z.2.1⟩⟩
 intro n
 induction n with
 |zero=>
  intro k x i hn hk hi dK hx hm;obtain⟨k,rfl⟩:=bl hk;exact fin k x i U dK hx hm
 |succ n ih=>
  intro k x i hn hk hi dK hx hm;obtain⟨k,rfl⟩:=bl hk
  by_cases aS:i<(bO g.m s).length
  ·rw[iP.l0,wi U U];refine Ok.pos aS (Ok.bind (Ok.cz ⟨hi,aS⟩ (Ok.eq (acA h _) (agu h hN hR (bO g.m s) i (uI g.m (rd (bO g.m s) i)) (S9 ..) (λe he=>?_) x U 4 fuel x 0 (by have:=S9 g.m (rd (bO g.m s) i);omega) (by rw[cI];omega) U U U (λy=>⟨.inl,λw=>w.resolve_right λ⟨q,q0,q1,_⟩=>by omega⟩)))) λr hr=>ih k r (i+1) U U U U U λy=>?_)
   ·obtain⟨d,_,_,d2,rfl⟩:=GZ he;have:=(rj.1 d2).1;have:=h.rG _ this.1 this.2;simp only;omega
   ·rw[hr.2 y,hm y];constructor
    ·rintro(⟨q,q0,q1,w⟩ |w)
     ·exact⟨q,q0,by omega,w⟩
     ·exact⟨i,hi,by omega,w⟩
    ·rintro⟨q,q0,q1,w⟩
     by_cases z:q=i
     ·subst z;exact .inr w
     ·exact .inl ⟨q,q0,by omega,w⟩
  ·exact fin k x i aS dK hx hm
theorem Wr (h:cQ g more) (hN:g.m.W*g.m.H<=1600) (hR:qD g R) (s:Int):Ok (iP.f g R s) (λr=>r.length<=1025/\(∀y,y∈r↔we g R s y)/\r.Pairwise (λa b=> ¬uJ b a)):=by
 have hl:=xa g.m s;unfold iP.f;refine Ok.eq (B0 g) (Ok.eq (v:=R.bS) rfl (Ok.eq (G6 g) (Ok.neg (by simp[hR.1]) (Ok.eq (Xh h s) (agt h hN hR s 256 fuel [] 0 U (by rw[cI];omega) U U aX (λy=>⟨λq=>by simp at q,λ⟨q,q0,q1,_⟩=>by omega⟩))))))
theorem Yz (h:cQ g more) (hN:g.m.W*g.m.H<=1600) (hR:qD g R) (hg:bV g.m R.goal) {s:Int} (hs:bE g.m.W g.m.H s) {x:a_} (hx:we g R s x):rD (di g.m s) x/\x.Key+254*256<=104603678:=by
 have zS:RB=104538400:=rfl;rcases hx with⟨c,hc,e,he,ha,rfl⟩ |⟨h1,h2,rfl⟩
 ·obtain⟨n1,n2,n3,n4⟩:=qU hc;obtain⟨d,d0,d3,d4,rfl⟩:=GZ he;have e_:=ir h.ok n2;have mH:=tG h n2;rw[n4] at mH;have aV:=(rj.1 d4).1;have oJ:=IV (w:=g.m.W) (h:=g.m.H) (c:=c) (side:=d) aV.1;have hb:=h.rG _ aV.1 aV.2;have C_:=Kf hN hR ha;simp only at ha C_;have bD:=(rj.1 d4).2;have bZ:=Ak e_;have nS:=pX e_;rw[n4] at bZ nS;have VL:=Ma hs bZ.1 bZ.2 d0 d3;rw[nS] at VL;have Dk:Ea g.m.W g.m.H c (fp g.m.W g.m.H c d)=d:=by
   rw[oJ.2.2.2.2.1];exact YE e_ d0 U (by rw[<-oJ.2.2.2.2.1];exact oJ.2.2.2.1)
  refine⟨⟨mH.1,mH.2.1,?_,by simp only;omega,by simp only;omega,?_⟩,by simp only;omega⟩
  ·simp only;rw[mH.2.2];unfold fh;rw[ag n2];exact(rj.1 n1).2
  ·simp only;rw[Dk];exact .inr ⟨d0,d3,(VL.1 aV.1).2⟩
 ·have mH:=tG h hg;rw[h1] at mH;exact⟨⟨mH.1,mH.2.1,by simp only;rw[mH.2.2];exact h2,by simp,by simp,.inl J⟩,by simp⟩
end
end Go.Proofs.YthodkonhneebbaaGreatDoor
