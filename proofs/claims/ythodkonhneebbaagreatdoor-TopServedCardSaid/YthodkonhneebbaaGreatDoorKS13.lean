/- What the functions do, in plain Lean, on the objects that are kept in order. -/
import Derived.Test.YthodkonhneebbaaGreatDoorKS6
import Derived.Test.YthodkonhneebbaaGreatDoorKS5
import Derived.Test.YthodkonhneebbaaGreatDoorKS10
import Derived.Test.YthodkonhneebbaaGreatDoorKS7
import Derived.Test.YthodkonhneebbaaGreatDoorKS9
namespace Go.Proofs.YthodkonhneebbaaGreatDoor
open Go.Hx
open Int renaming tmod->fC,tdiv->di,fdiv->fQ,toNat->ax,emod_lt_of_pos->AN,mul_comm->mC,mul_le_mul_of_nonneg_right->BZ,mul_ediv_add_emod->uQ,le_refl->dU
open List renaming length->aa,set->aD,replicate->cy,length_set->nO,append_nil->tv,length_cons->tz,drop_of_length_le->DT,mem_cons_self->mD,mem_cons_of_mem->oH,mem_cons->nh,not_mem_nil->ra,length_append->zg
open BitVec renaming toNat->gf,ofInt->cj
open Nat renaming le_refl->jW
open Bool renaming eq_iff_iff->nM,false_eq_true->jk
open Classical renaming byContradiction->pr
set_option linter.unusedVariables false
set_option linter.unusedSimpArgs false
theorem bd {x:Int} (h1: -9223372036854775808<=x) (h2:x<=9223372036854775807):af x=x:=by
 unfold af IntKind.wrap IntKind.signed IntKind.bits;simp;omega
theorem qe {a b:Int} (h:0<=a):di a b=a/b:=Int.tdiv_eq_ediv_of_nonneg h
theorem mY {a b:Int} (h:0<=a):fC a b=a%b:=Int.tmod_eq_emod_of_nonneg h
abbrev iJ (w h:Int):Prop:=1<=w/\w<=1024/\1<=h/\h<=1024
abbrev cV (w h c:Int):Prop:=iJ w h/\0<=c/\c<w*h
theorem kU {a b m n:Int} (ha:0<=a) (hb:0<=b) (h1:a<=m) (h2:b<=n):a*b<=m*n:=
 Int.mul_le_mul h1 h2 hb U
theorem nu {a b:Int} (ha:0<=a) (hb:0<=b):0<=a*b:=Int.mul_nonneg ha hb
theorem pP {w h:Int} (hm:iJ w h):1<=w*h/\w*h<=1048576:=by
 obtain⟨a,b,c,d⟩:=hm;have h1:w*h<=1024*1024:=kU U U b d;have h2:1*1<=w*h:=Int.mul_le_mul a c U U;omega
theorem zT (w h:Int):oE.f w h=some (decide (iJ w h)):=by
 unfold oE.f
 congr 1
 simp only[iJ];rw[nM];simp;omega
theorem GX (n lo hi:Int):mS.f n lo hi=some (decide (lo<=n/\n<=hi)):=by
 unfold mS.f
 congr 1
 rw[nM];simp
theorem Pk (w h:Int):wP.f w h=some (decide (iJ w h)):=by
 unfold wP.f;simp only[GX,aM,iJ]
 by_cases h1:1<=w/\w<=1024
 ·simp[h1]
 ·simp[h1];omega
def bq (w h:Int):Int×Int:=if iJ w h then((w+15)/16,(h+15)/16) else(0,0)
theorem Du (w h:Int):qT.f w h=some (bq w h):=by
 unfold qT.f bq;simp only[zT,aM]
 by_cases hm:iJ w h
 ·rw[decide_eq_true hm,ah hm,ak bp];obtain⟨a,b,c,d⟩:=hm;simp only[bd (x:=w+16) U U,bd (x:=h+16) U U,bd (x:=w+16-1) U U,bd (x:=h+16-1) U U,
   qe (a:=w+16-1) U,qe (a:=h+16-1) U,bd (x:=(w+16-1)/16) U U,bd (x:=(h+16-1)/16) U U]
  congr 2<;>omega
 ·simp[hm]
theorem Pn (w h:Int):wQ.f w h=some (bq w h):=by
 rw[<-Du];unfold wQ.f qT.f;rw[Pk,zT]
theorem Dv {w h:Int} (hm:iJ w h):1<=(bq w h).1/\(bq w h).1<=64/\1<=(bq w h).2/\(bq w h).2<=64:=by
 unfold bq;rw[ah hm];obtain⟨a,b,c,d⟩:=hm;simp only;omega
theorem ahU (w h:Int):0<=(bq w h).1/\(bq w h).1<=64/\0<=(bq w h).2/\(bq w h).2<=64:=by
 by_cases hm:iJ w h
 ·have:=Dv hm;omega
 ·unfold bq;rw[ak hm];simp
def dy (w h:Int):Int:=(bq w h).1*(bq w h).2
theorem np (w h:Int):0<=dy w h/\dy w h<=4096:=by
 obtain⟨a,b,c,d⟩:=ahU w h;have h1:dy w h<=64*64:=kU a c b d;have h2:0<=dy w h:=nu a c;omega
theorem aaV {w h:Int} (hm:iJ w h):1<=dy w h:=by
 obtain⟨a,b,c,d⟩:=Dv hm;have h2:1*1<=dy w h:=Int.mul_le_mul a c U U;omega
theorem K5 (w h:Int):wO.f w h=some (dy w h):=by
 unfold wO.f;have:=np w h;simp only[Pn,aM,dy];unfold dy at this;rw[bd U U]
abbrev bC (w h s:Int):Prop:=0<=s/\s<dy w h
def HV (w h s:Int):Int×Int×Bool:=if bC w h s then(16*(s%(bq w h).1),16*(s/(bq w h).1),true) else(0,0,false)
theorem uz {w h s:Int} (hs:bC w h s):iJ w h:=by
 by_cases hm:iJ w h
 ·exact hm
 ·have:dy w h=0:=by unfold dy bq;rw[ak hm];simp
  obtain⟨a,b⟩:=hs;omega
theorem uA {w h s:Int} (hs:bC w h s):0<=s%(bq w h).1/\s%(bq w h).1<(bq w h).1/\0<=s/(bq w h).1/\s/(bq w h).1<(bq w h).2:=by
 obtain⟨a,b,c,d⟩:=Dv (uz hs);obtain⟨h0,h1⟩:=hs;refine⟨Int.emod_nonneg _ U,AN _ U,Int.ediv_nonneg h0 U,?_⟩;unfold dy at h1;exact Int.ediv_lt_of_lt_mul U (by rw[mC];exact h1)
theorem Ry (w h s:Int):Ay.f w h s=some (HV w h s):=by
 unfold Ay.f HV;simp only[Du,aM];have hc:=np w h;have hw:af ((bq w h).1*(bq w h).2)=dy w h:=by unfold dy at hc⊢;exact bd U U
 rw[hw]
 by_cases hs:bC w h s
 ·have hb:((decide (s<0))||(decide (s≥dy w h)))=false:=by
   obtain⟨h0,h1⟩:=hs;simp;omega
  rw[hb];obtain⟨p1,p2,p3,p4⟩:=uA hs;obtain⟨a,b,c,d⟩:=Dv (uz hs);have bK: ¬(bq w h).1=0:=U;rw[ak bp,ah bK,ah bK,ah hs,mY hs.1,qe hs.1];rw[bd (x:=s/(bq w h).1) U U,bd U U,bd U U];rw[mC 16,mC 16]
 ·have hb:((decide (s<0))||(decide (s≥dy w h)))=true:=by
   simp only[bC] at hs;simp;omega
  rw[hb,ak hs];rfl
def ay (w h s:Int):Int×Int:=if bC w h s then(min 16 (w-16*(s%(bq w h).1)),min 16 (h-16*(s/(bq w h).1))) else(0,0)
theorem PA {w h s:Int} (hs:bC w h s):16*(s%(bq w h).1)<w/\16*(s/(bq w h).1)<h:=by
 have hm:=uz hs;obtain⟨p1,p2,p3,p4⟩:=uA hs;have e1:(bq w h).1=(w+15)/16:=by unfold bq;rw[ah hm]
 have e2:(bq w h).2=(h+15)/16:=by unfold bq;rw[ah hm]
 generalize s%(bq w h).1=x at*;generalize s/(bq w h).1=y at*;omega
theorem KQ (x:Int):(if x<16 then x else 16)=min 16 x:=by
 rw[Int.min_def];split<;>split<;>omega
theorem E5 (w h s:Int):rS.f w h s=some (ay w h s):=by
 unfold rS.f ay;simp only[Ry,aM];unfold HV
 by_cases hs:bC w h s
 ·rw[ah hs,ah hs];obtain⟨r1,r2⟩:=PA hs;obtain⟨p1,p2,p3,p4⟩:=uA hs;obtain⟨a,b,c,d⟩:=uz hs;rw[ak bp];simp only;rw[bd (x:=w-_) U U,bd (x:=h-_) U U,KQ,KQ]
 ·rw[ak hs,ak hs];rfl
theorem Po (w h s:Int):wR.f w h s=some (ay w h s):=by
 unfold wR.f ay;have hc:=np w h;simp only[K5,aM,GX,Pn];rw[bd (x:=dy w h-1) U U]
 by_cases hs:bC w h s
 ·have hb:decide (0<=s/\s<=dy w h-1)=true:=by obtain⟨h0,h1⟩:=hs;simp;omega
  rw[hb,ah hs];obtain⟨r1,r2⟩:=PA hs;obtain⟨p1,p2,p3,p4⟩:=uA hs;obtain⟨a,b,c,d⟩:=Dv (uz hs);obtain⟨m1,m2,m3,m4⟩:=uz hs;have bK: ¬(bq w h).1=0:=U;rw[ak bp,ah bK,ah bK,mY hs.1,qe hs.1];rw[bd (x:=s/(bq w h).1) U U,bd (x:=16*(s%_)) U U,bd (x:=16*(s/_)) U U,
   bd (x:=w-_) U U,bd (x:=h-_) U U,KQ,KQ]
 ·have hb:decide (0<=s/\s<=dy w h-1)=false:=by simp only[bC] at hs;simp;omega
  rw[hb,ak hs];rfl
theorem p9 {w h s:Int} (hs:bC w h s):1<=(ay w h s).1/\(ay w h s).1<=16/\1<=(ay w h s).2/\(ay w h s).2<=16:=by
 obtain⟨r1,r2⟩:=PA hs;unfold ay;rw[ah hs];simp only;omega
theorem size_le (w h s:Int):0<=(ay w h s).1/\(ay w h s).1<=16/\0<=(ay w h s).2/\(ay w h s).2<=16:=by
 by_cases hs:bC w h s
 ·have:=p9 hs;omega
 ·unfold ay;rw[ak hs];simp
def ou (w h x y:Int):Int:=if iJ w h/\0<=x/\x<w/\0<=y/\y<h then y*w+x else-1
theorem tM {w h x y:Int} (hx:0<=x) (wD:x<w) (hy:0<=y) (Ux:y<h):0<=y*w+x/\y*w+x<w*h:=by
 have h1:(y+1)*w<=h*w:=BZ U U;have h2:(y+1)*w=y*w+w:=by rw[Int.add_mul];omega
 have h3:0<=y*w:=nu hy U;have h4:h*w=w*h:=mC _ _;omega
theorem Rk (w h x y:Int):Ax.f w h x y=some (ou w h x y):=by
 unfold Ax.f ou;simp only[zT,aM]
 by_cases hc:iJ w h/\0<=x/\x<w/\0<=y/\y<h
 ·obtain⟨hm,h1,h2,h3,h4⟩:=hc;have hb:(((((!decide (iJ w h))||(decide (x<0)))||(decide (x≥w)))||(decide (y<0)))||(decide (y≥h)))=false:=by
   simp[hm];omega
  rw[hb,ak bp,ah ⟨hm,h1,h2,h3,h4⟩];have:=tM h1 h2 h3 h4;have hp:=pP hm;have h5:0<=y*w:=nu h3 U;rw[bd (x:=y*w) U U,bd U U]
 ·have hb:(((((!decide (iJ w h))||(decide (x<0)))||(decide (x≥w)))||(decide (y<0)))||(decide (y≥h)))=true:=by
   by_cases hm:iJ w h
   ·have mj: ¬(0<=x/\x<w/\0<=y/\y<h):=λh=>hc ⟨hm,h⟩
    simp[hm];omega
   ·simp[hm]
  rw[hb,ak hc];rfl
theorem UG (w h c:Int):xi.f w h c=some (decide (cV w h c)):=by
 unfold xi.f;simp only[zT,aM]
 by_cases hm:iJ w h
 ·have hp:=pP hm;rw[bd U U];simp[hm]
 ·simp[hm]
theorem WH (w h c:Int):Aa.f w h c=some (decide (cV w h c)):=by
 unfold Aa.f;simp only[Pk,aM,GX]
 by_cases hm:iJ w h
 ·have hp:=pP hm;rw[bd (x:=w*h) U U,bd (x:=w*h-1) U U];rw[decide_eq_true hm,ah J];simp only[aM]
  congr 1
  rw[nM];simp[hm];omega
 ·simp[hm]
def Bu (w h c:Int):Int×Int:=if cV w h c then(c%w,c/w) else(-1,-1)
theorem vv {w h c:Int} (hc:cV w h c):0<=c%w/\c%w<w/\0<=c/w/\c/w<h:=by
 obtain⟨⟨a,b,d,e⟩,h0,h1⟩:=hc;exact⟨Int.emod_nonneg _ U,AN _ U,Int.ediv_nonneg h0 U,Int.ediv_lt_of_lt_mul U (by rw[mC];exact h1)⟩
theorem Pb (w h c:Int):xh.f w h c=some (Bu w h c):=by
 unfold xh.f Bu;simp only[UG,aM]
 by_cases hc:cV w h c
 ·have hp:=vv hc;have hm:=hc.1;have bK: ¬w=0:=by obtain⟨a,_⟩:=hm;omega
  rw[ak (by simp[hc]),ah bK,ah bK,ah hc,mY hc.2.1,qe hc.2.1]
  obtain⟨a,b,d,e⟩:=hm;rw[bd U U]
 ·simp[hc]
theorem EI {w h c:Int}:(Bu w h c).1<0↔ ¬cV w h c:=by
 unfold Bu
 by_cases hc:cV w h c
 ·have:=vv hc;rw[ah hc];exact⟨λh=>by simp only at h;omega,λh=>absurd hc h⟩
 ·rw[ak hc];simp[hc]
def aR (w h c:Int):Int:=if cV w h c then c/w/16*(bq w h).1+c%w/16 else-1
theorem Ds {w h c:Int} (hc:cV w h c):0<=c%w/16/\c%w/16<(bq w h).1/\0<=c/w/16/\c/w/16<(bq w h).2:=by
 have hp:=vv hc;have e1:(bq w h).1=(w+15)/16:=by unfold bq;rw[ah hc.1]
 have e2:(bq w h).2=(h+15)/16:=by unfold bq;rw[ah hc.1]
 rw[e1,e2];generalize c%w=x at*;generalize c/w=y at*;omega
theorem EZ {w h c:Int} (hc:cV w h c):bC w h (c/w/16*(bq w h).1+c%w/16):=by
 obtain⟨a,b,d,e⟩:=Ds hc;have:=tM a b d e;unfold bC dy;exact this
theorem rK (w h c:Int):gG.f w h c=some (aR w h c):=by
 unfold gG.f aR;simp only[Pb,aM]
 by_cases hc:cV w h c
 ·rw[ak (by rw[EI];simp[hc]),Du]
  simp only[aM,Bu];rw[ah hc,ah hc];have hp:=vv hc;obtain⟨a,b,d,e⟩:=Ds hc;obtain⟨m1,m2,m3,m4⟩:=Dv hc.1;have hs:=EZ hc;have hk:=np w h;obtain⟨s1,s2⟩:=hs;have h5:0<=c/w/16*(bq w h).1:=nu d U;simp only;rw[qe hp.2.2.1,qe hp.1,bd (x:=c/w/16) U U,bd (x:=c%w/16) U U,bd (x:=_*_) U U,bd U U]
 ·rw[ah (by rw[EI];exact hc),ak hc]
theorem pR {a x y:Int} (h0:0<=x) (h1:x<a):(y*a+x)%a=x/\(y*a+x)/a=y:=by
 have ha:a≠0:=U;constructor
 ·rw[Int.add_comm,Int.add_mul_emod_self_right];exact Int.emod_eq_of_lt h0 h1
 ·rw[Int.add_comm,Int.add_mul_ediv_right _ _ ha,Int.ediv_eq_zero_of_lt h0 h1];omega
def cE (w h c:Int):Int:=if cV w h c then c/w%16*(ay w h (aR w h c)).1+c%w%16 else-1
theorem OL {w h c:Int} (hc:cV w h c):c%w%16<(ay w h (aR w h c)).1/\c/w%16<(ay w h (aR w h c)).2:=by
 have hs:=EZ hc;obtain⟨a,b,d,e⟩:=Ds hc;have hn:=pR (a:=(bq w h).1) (x:=c%w/16) (y:=c/w/16) a b;have hp:=vv hc;unfold aR;rw[ah hc];unfold ay;rw[ah hs,hn.1,hn.2];simp only;generalize c%w=x at*;generalize c/w=y at*;omega
theorem Dt {w h c:Int}:aR w h c<0↔ ¬cV w h c:=by
 unfold aR
 by_cases hc:cV w h c
 ·have:=EZ hc;rw[ah hc];exact⟨λh=>by unfold bC at this;omega,λh=>absurd hc h⟩
 ·rw[ak hc];simp[hc]
def cA (w h s l:Int):Int:=
 if bC w h s/\0<=l/\l<(ay w h s).1*(ay w h s).2 then(16*(s/(bq w h).1)+l/(ay w h s).1)*w+(16*(s%(bq w h).1)+l%(ay w h s).1) else-1
theorem we {w h s l:Int} (hs:bC w h s) (h0:0<=l) (h1:l<(ay w h s).1*(ay w h s).2):
 0<=l%(ay w h s).1/\l%(ay w h s).1<(ay w h s).1/\0<=l/(ay w h s).1/\l/(ay w h s).1<(ay w h s).2/\
 16*(s%(bq w h).1)+l%(ay w h s).1<w/\16*(s/(bq w h).1)+l/(ay w h s).1<h:=by
 obtain⟨z1,z2,z3,z4⟩:=p9 hs;have a1:0<=l%(ay w h s).1:=Int.emod_nonneg _ U;have a2:l%(ay w h s).1<(ay w h s).1:=AN _ U;have a3:0<=l/(ay w h s).1:=Int.ediv_nonneg h0 U;have a4:l/(ay w h s).1<(ay w h s).2:=Int.ediv_lt_of_lt_mul U (by rw[mC];exact h1)
 refine⟨a1,a2,a3,a4,?_,?_⟩
 ·have:(ay w h s).1<=w-16*(s%(bq w h).1):=by unfold ay;rw[ah hs];simp only;omega
  omega
 ·have:(ay w h s).2<=h-16*(s/(bq w h).1):=by unfold ay;rw[ah hs];simp only;omega
  omega
theorem JD (w h s l:Int):uL.f w h s l=some (cA w h s l):=by
 unfold uL.f cA;simp only[Ry,aM,E5,Rk];have hz:=size_le w h s;have Kw:(ay w h s).1*(ay w h s).2<=16*16:=kU hz.1 hz.2.2.1 hz.2.1 hz.2.2.2;have hz2:0<=(ay w h s).1*(ay w h s).2:=nu hz.1 hz.2.2.1;rw[bd (x:=_*(ay w h s).2) U U]
 by_cases hs:bC w h s
 ·unfold HV;rw[ah hs]
  by_cases hl:0<=l/\l<(ay w h s).1*(ay w h s).2
  ·obtain⟨a1,a2,a3,a4,a5,a6⟩:=we hs hl.1 hl.2;obtain⟨z1,z2,z3,z4⟩:=p9 hs;obtain⟨m1,m2,m3,m4⟩:=uz hs;obtain⟨p1,p2,p3,p4⟩:=uA hs;have bK: ¬(ay w h s).1=0:=U;rw[ak bo,ah bK,ah bK,ah (c:=bC w h s/\_) ⟨hs,hl⟩];simp only;rw[mY hl.1,qe hl.1,bd (x:=l/_) U U,bd (x:=_+l%_) U U,bd (x:=_+l/_) U U];unfold ou;rw[ah ⟨⟨m1,m2,m3,m4⟩,by omega,a5,by omega,a6⟩]
  ·rw[ah bo,ak (λh=>hl h.2)]
 ·unfold HV;rw[ak hs,ah bp,ak (c:=bC w h s/\_) (λh=>hs h.1)]
theorem WC (w h s l:Int):z_.f w h s l=some (cA w h s l):=by
 unfold z_.f cA;simp only[Po,aM,GX,Pn];have hz:=size_le w h s;have Kw:(ay w h s).1*(ay w h s).2<=16*16:=kU hz.1 hz.2.2.1 hz.2.1 hz.2.2.2;have hz2:0<=(ay w h s).1*(ay w h s).2:=nu hz.1 hz.2.2.1;rw[bd (x:=_*(ay w h s).2) U U,bd (x:=_*(ay w h s).2-1) U U]
 by_cases hs:bC w h s
 ·by_cases hl:0<=l/\l<(ay w h s).1*(ay w h s).2
  ·obtain⟨a1,a2,a3,a4,a5,a6⟩:=we hs hl.1 hl.2;obtain⟨z1,z2,z3,z4⟩:=p9 hs;obtain⟨m1,m2,m3,m4⟩:=uz hs;obtain⟨p1,p2,p3,p4⟩:=uA hs;obtain⟨s1,s2,s3,s4⟩:=Dv (uz hs);have bK: ¬(ay w h s).1=0:=U;have T_: ¬(bq w h).1=0:=U;rw[ak bo,ah (c:=bC w h s/\_) ⟨hs,hl⟩,ah T_,ah bK,ah T_,ah bK,mY hl.1,qe hl.1,mY hs.1,qe hs.1];have hg:=tM (w:=w) (h:=h) (x:=16*(s%(bq w h).1)+l%(ay w h s).1) (y:=16*(s/(bq w h).1)+l/(ay w h s).1) U a5 U a6;have hq:0<=(16*(s/(bq w h).1)+l/(ay w h s).1)*w:=nu U U;have hp:=pP (uz hs);rw[bd (x:=l/_) U U,bd (x:=s/_) U U,bd (x:=16*(s/_)) U U,bd (x:=16*(s/_)+_) U U,
    bd (x:=_*w) U U,bd (x:=16*(s%_)) U U,bd (x:=_*w+_) U U,bd U U]
   congr 1;omega
  ·rw[ah bo,ak (λh=>hl h.2)]
 ·have h1:(ay w h s).1=0:=by unfold ay;rw[ak hs]
  rw[ah (by simp[h1];omega),ak (λh=>hs h.1)]
theorem P8 {n lo hi:Int} (ml: -4611686018427387904<=lo) (wx:hi<=4611686018427387904) (hle:lo<=hi) (hn:hi-lo<=4611686018427387904):eW.f n lo hi=some (lo+n%(hi-lo+1)):=by
 unfold eW.f;rw[bd (x:=hi-lo) U U,bd (x:=hi-lo+1) U U,ah U];generalize hm:hi-lo+1=m;have CD:0<m:=U;have h1:0<=n%m:=Int.emod_nonneg _ U;have h2:n%m<m:=AN _ CD
 by_cases A':0<=n
 ·rw[mY A',ak U,bd U U]
 ·have ha:fC n m=if n%m=0 then 0 else n%m-m:=by
   rw[Int.tmod_eq_emod];have hd:(m∣n)↔n%m=0:=⟨Int.emod_eq_zero_of_dvd,Int.dvd_of_emod_eq_zero⟩
   by_cases h0:n%m=0
   ·simp[h0,hd]
   ·simp[h0,hd,A'];omega
  rw[ha]
  by_cases h0:n%m=0
  ·rw[ah h0,ak U,bd U U,h0]
  ·rw[ak h0,ah U,bd (x:=_+hi) U U,bd (x:=_-lo) U U,bd (x:=_+1) U U,bd U U]
   congr 1;omega
theorem P9 {n lo hi:Int} (hle:lo<=hi):lo<=lo+n%(hi-lo+1)/\lo+n%(hi-lo+1)<=hi:=by
 have h1:0<=n%(hi-lo+1):=Int.emod_nonneg _ U;have h2:n%(hi-lo+1)<hi-lo+1:=AN _ U;omega
theorem Fi {x:Int} (h1:0<=x) (h2:x<=255):bQ x=x:=by
 unfold bQ IntKind.wrap IntKind.signed IntKind.bits;simp;omega
theorem sC:fuel=18446744073709551616:=by unfold fuel;rfl
theorem Bl {α:Type} [Inhabited α] {L:List α} {i c:Int} {v:α} (h0:0<=i) (h1:i<L.length) (c0:0<=c):rd (aD L i.toNat v) c=if c=i then v else rd L c:=by
 unfold rd
 by_cases hc:c=i
 ·subst hc;rw[ah rfl];simp[List.getD,show c.toNat<L.length by omega]
 ·rw[ak hc];have:i.toNat≠c.toNat:=U;simp[List.getD,this]
theorem Wv {α:Type} [Inhabited α] {L:List α} {v:α} {c:Int} (c0:0<=c) (h:c<=L.length):rd (L++[v]) c=if c=L.length then v else rd L c:=by
 unfold rd
 by_cases hc:c=L.length
 ·rw[ah hc,hc];simp[List.getD]
 ·rw[ak hc];simp[List.getD,List.getElem?_append_left (show c.toNat<L.length by omega)]
theorem RH {α:Type} [Inhabited α] {a:List α} {i:Int} (h0:0<=i) (h1:i<a.length):a.drop i.toNat=rd a i::a.drop (i+1).toNat:=by
 have aS:i.toNat<a.length:=U;rw[iU aS,show(i+1).toNat=i.toNat+1 by omega]
 exact List.drop_eq_getElem_cons aS
theorem sV {α:Type} [Inhabited α] {a:List α} {i:Int} (h0:0<=i) (h1:i<a.length):rd a i∈a:=by
 rw[iU U];exact List.getElem_mem _
theorem Ro (s:List Int) (h:s.length<=1099511627776):oy.f s=some s:=by
 unfold oy.f;rw[ah (by simpa using h)];simp
theorem aeI (s:List Int) (v:Int) (hb:s.length<=4611686018427387904): ∀(n k:Nat) (i:Int),i+n=s.length->0<=i->n<k->
 ∃r,rQ.l0 k s v i=some r/\(0<=r↔v∈s.drop i.toNat):=by
 intro n
 induction n with
 |zero=>
  intro k i hi h0 hk;obtain⟨k,rfl⟩: ∃q,k=q+1:=⟨k-1,by omega⟩
  rw[rQ.l0,ak U,DT U];exact⟨_,J,by simp⟩
 |succ n ih=>
  intro k i hi h0 hk;obtain⟨k,rfl⟩: ∃q,k=q+1:=⟨k-1,by omega⟩
  rw[rQ.l0,ah U,ah U,RH h0 U]
  by_cases he:v=rd s i
  ·rw[ah (by simpa using he)]
   exact⟨_,J,by simp[he,h0]⟩
  ·rw[ak (by simpa using he),bd U U]
   obtain⟨r,h1,h2⟩:=ih k (i+1) U U U;exact⟨r,h1,by rw[h2];simp[he]⟩
theorem My (s:List Int) (v:Int) (hb:s.length<4611686018427387904):xa.f s v=some (decide (v∈s)):=by
 unfold xa.f rQ.f;obtain⟨r,h1,h2⟩:=aeI s v U s.length fuel 0 U U (by rw[sC];omega)
 rw[h1,aM]
 congr 1
 rw[nM];simpa using h2
def dX (side:Int):Int:=if side=1 then 1 else if side=3 then-1 else 0
def dY (side:Int):Int:=if side=0 then-1 else if side=2 then 1 else 0
def bk (w h c side:Int):Int:=
 if cV w h c/\0<=side/\side<=4 then ou w h (c%w+dX side) (c/w+dY side) else-1
theorem E9 (w h c side:Int):nf.f w h c side=some (bk w h c side):=by
 unfold nf.f bk;simp only[Pb,aM]
 by_cases hc:cV w h c
 ·rw[ak (by rw[EI];simp[hc])]
  have hp:=vv hc;obtain⟨q1,q2,q3,q4⟩:=hc.1;have e:Bu w h c=(c%w,c/w):=by unfold Bu;rw[ah hc]
  simp only[e,Rk,aM];have e1:af (c/w+ -1)=c/w+ -1:=bd U U;have e2:af (c/w+1)=c/w+1:=bd U U;have e3:af (c%w+ -1)=c%w+ -1:=bd U U;have e4:af (c%w+1)=c%w+1:=bd U U
  by_cases h0:side=0
  ·subst h0;simp[e1,dX,dY,hc]
  by_cases h2:side=2
  ·subst h2;simp[e2,dX,dY,hc]
  by_cases h3:side=3
  ·subst h3;simp[e3,dX,dY,hc]
  by_cases h1:side=1
  ·subst h1;simp[e4,dX,dY,hc]
  by_cases h4:side=4
  ·subst h4;simp[dX,dY,hc]
  ·rw[ak (c:=cV w h c/\_) U];simp[h0,h1,h2,h3,h4]
 ·rw[ah (by rw[EI];exact hc),ak (λh=>hc h.1)]
theorem WM (w h c side:Int):Ab.f w h c side=some (bk w h c side):=by
 unfold Ab.f bk;simp only[WH,GX,aM]
 by_cases hc:cV w h c
 ·have hp:=vv hc;obtain⟨q1,q2,q3,q4⟩:=hc.1;have bK: ¬w=0:=U
  by_cases hs:0<=side/\side<=4
  ·have e1:af (c/w-1)=c/w-1:=bd U U;have e2:af (c/w+1)=c/w+1:=bd U U;have e3:af (c%w-1)=c%w-1:=bd U U;have e4:af (c%w+1)=c%w+1:=bd U U;have e5:af (c/w)=c/w:=bd U U;have e6:af (w-1)=w-1:=bd U U;have e7:af (h-1)=h-1:=bd U U;have fin: ∀x y:Int,-1<=x->x<=w-> -1<=y->y<=h->
    (if x<0∨w-1<x then some true else some (!decide (0<=y)||!decide (y<=h-1))).bind (λaP=>if aP=true then(some (-1)) else(some (af ((af (y*w))+x))))=some (ou w h x y):=by
    intro x y h1 h2 h3 h4;unfold ou
    by_cases hx:0<=x/\x<=w-1
    ·by_cases hy:0<=y/\y<=h-1
     ·have hl:=tM (w:=w) (h:=h) hx.1 U hy.1 U;have Ud:=pP hc.1;have h5:0<=y*w:=nu hy.1 U;rw[ah (c:=iJ w h/\_) ⟨hc.1,hx.1,by omega,hy.1,by omega⟩]
      rw[ak U,decide_eq_true hy.1,decide_eq_true hy.2];simp only[aM,Bool.not_true,Bool.or_self,jk,if_false];rw[bd (x:=y*w) U U,bd U U]
     ·rw[ak (c:=iJ w h/\_) U,ak U];have:(!decide (0<=y)||!decide (y<=h-1))=true:=by rw[<-Bool.not_and,<-Bool.decide_and];simp[hy]
      rw[this];rfl
    ·rw[ak (c:=iJ w h/\_) U,ah U];rfl
   have e8:c/w-1=c/w+ -1:=U;have e9:c%w-1=c%w+ -1:=U;rw[ah (c:=cV w h c/\_) ⟨hc,hs⟩];simp only[decide_eq_true hc,decide_eq_true hs,Bool.not_true,jk,if_false,aM,qe hc.2.1,mY hc.2.1,e5,e6,e7,e1,e4];have zI:side=0∨side=1∨side=2∨side=3∨side=4:=U;rcases zI with rfl |rfl |rfl |rfl |rfl
   ·have:=fin (c%w) (c/w-1) U U U U;simp only[e8] at this;simpa[bK,dX,dY,e8] using this
   ·have:=fin (c%w+1) (c/w) U U U U;simpa[bK,dX,dY] using this
   ·have:=fin (c%w) (c/w+1) U U U U;simpa[bK,dX,dY,e2] using this
   ·have:=fin (c%w-1) (c/w) U U U U;simp only[e9] at this;simpa[bK,dX,dY,e3,e9,show af (c%w+ -1)=c%w+ -1 by rw[<-e9];exact e3] using this
   ·have:=fin (c%w) (c/w) U U U U;simpa[bK,dX,dY] using this
  ·rw[ak (c:=cV w h c/\_) (λh=>hs h.2)];simp[hc,hs]
 ·rw[ak (c:=cV w h c/\_) (λh=>hc h.1)];simp[hc]
def E4 (w h a b:Int):Nat->Int->Int
 |0,_=>5
 |n+1,s=>if bk w h a s=b then s else E4 w h a b n (s+1)
def Dr (w h a b:Int):Int:=if cV w h a/\cV w h b then E4 w h a b 5 0 else 5
theorem ah9 (w h a b:Int): ∀(n k:Nat) (s:Int),s+n=5->0<=s->n<k->qU.l0 k w h a b s=some (E4 w h a b n s):=by
 intro n
 induction n with
 |zero=>
  intro k s hs h0 hk;obtain⟨k,rfl⟩: ∃m,k=m+1:=⟨k-1,by omega⟩
  rw[qU.l0,ak U];rfl
 |succ n ih=>
  intro k s hs h0 hk;obtain⟨k,rfl⟩: ∃m,k=m+1:=⟨k-1,by omega⟩
  rw[qU.l0,ah U,E9];simp only[aM,E4]
  by_cases he:bk w h a s=b
  ·simp[he]
  ·rw[ak (by simpa using he),ak he,bd U U]
   exact ih k (s+1) U U U
theorem ah8 (w h a b:Int):qU.f w h a b=some (Dr w h a b):=by
 unfold qU.f Dr;simp only[UG,aM]
 by_cases ha:cV w h a
 ·by_cases hb:cV w h b
  ·rw[ah (c:=cV w h a/\_) ⟨ha,hb⟩];simp only[decide_eq_true ha,decide_eq_true hb,Bool.not_true,jk,if_false,aM];exact ah9 w h a b 5 fuel 0 U U (by rw[de];omega)
  ·rw[ak (c:=cV w h a/\_) (λh=>hb h.2)];simp[ha,hb]
 ·rw[ak (c:=cV w h a/\_) (λh=>ha h.1)];simp[ha]
theorem Mt {w h c:Int} (hc:cV w h c):ou w h (c%w) (c/w)=c:=by
 have hp:=vv hc;unfold ou;rw[ah ⟨hc.1,hp⟩];have h1:=uQ c w;rw[mC] at h1;omega
theorem ahJ {w h x y:Int} (hm:iJ w h) (h1:0<=x) (h2:x<w) (h3:0<=y) (h4:y<h):cV w h (ou w h x y)/\ou w h x y%w=x/\ou w h x y/w=y:=by
 unfold ou;rw[ah ⟨hm,h1,h2,h3,h4⟩];have:=tM h1 h2 h3 h4;exact⟨⟨hm,this⟩,pR h1 h2⟩
theorem E8 {w h c side:Int} (hc:cV w h c) (h0:0<=side) (h4:side<=4):
 (bk w h c side= -1/\ ¬(0<=c%w+dX side/\c%w+dX side<w/\0<=c/w+dY side/\c/w+dY side<h))∨
 (cV w h (bk w h c side)/\bk w h c side%w=c%w+dX side/\bk w h c side/w=c/w+dY side/\
   0<=c%w+dX side/\c%w+dX side<w/\0<=c/w+dY side/\c/w+dY side<h):=by
 have e:bk w h c side=ou w h (c%w+dX side) (c/w+dY side):=by unfold bk;rw[ah ⟨hc,h0,h4⟩]
 rw[e]
 by_cases hx:0<=c%w+dX side/\c%w+dX side<w/\0<=c/w+dY side/\c/w+dY side<h
 ·obtain⟨a,b,d,f⟩:=hx;have:=ahJ hc.1 a b d f;exact .inr ⟨this.1,this.2.1,this.2.2,a,b,d,f⟩
 ·refine .inl ⟨?_,hx⟩;unfold ou;rw[ak (λh=>hx h.2)]
theorem ah7 (w h a b:Int): ∀(n:Nat) (s t:Int),s+n=5->s<=t->t<5->bk w h a t=b->(∀u,s<=u->u<t->bk w h a u≠b)->E4 w h a b n s=t:=by
 intro n
 induction n with
 |zero=>intro s t h1 h2 h3;omega
 |succ n ih=>
  intro s t h1 h2 h3 h4 h5;simp only[E4]
  by_cases he:s=t
  ·subst he;rw[ah h4]
  ·rw[ak (h5 s U U)];exact ih (s+1) t U U h3 h4 (λu hu=>h5 u U)
theorem ait {w h c s t:Int} (hc:cV w h c) (s0:0<=s) (s4:s<=4) (t0:0<=t) (t4:t<=4) (hs:cV w h (bk w h c s)) (he:bk w h c t=bk w h c s):s=t:=by
 have zI:s=0∨s=1∨s=2∨s=3∨s=4:=U;have qB:t=0∨t=1∨t=2∨t=3∨t=4:=U;rcases E8 hc s0 s4 with⟨h1,_⟩ |⟨_,b1,b2,_⟩
 ·rw[h1] at hs;obtain⟨_,h2,_⟩:=hs;omega
 ·rcases E8 hc t0 t4 with⟨h1,_⟩ |⟨_,d1,d2,_⟩
  ·rw[he] at h1;rw[h1] at hs;obtain⟨_,h2,_⟩:=hs;omega
  ·rw[he,b1] at d1;rw[he,b2] at d2;unfold dX at d1;unfold dY at d2;rcases zI with rfl |rfl |rfl |rfl |rfl<;>rcases qB with rfl |rfl |rfl |rfl |rfl<;>simp at d1 d2⊢ <;>omega
theorem PH {w h c s:Int} (hc:cV w h c) (s0:0<=s) (s4:s<=4) (hs:cV w h (bk w h c s)):Dr w h c (bk w h c s)=s:=by
 unfold Dr;rw[ah ⟨hc,hs⟩];exact ah7 w h c _ 5 0 s U s0 U J (λu h1 h2 he=>by
  have:=ait hc s0 s4 h1 U hs he;omega)
theorem ais {w h c:Int} (hc:cV w h c):bk w h c 4=c:=by
 unfold bk;rw[ah ⟨hc,by omega,by omega⟩]
 simpa[dX,dY] using Mt hc
def Ok {α:Type} (o:Option α) (P:α->Prop):Prop:= ∃r,o=some r/\P r
section
variable {α β : Type} {o : Option α} {f : α -> Option β} {P : α -> Prop} {Q : β -> Prop} {a b : Option α} {c : Prop} [Decidable c]
theorem Ok.bind (h:Ok o P) (k: ∀r,P r->Ok (f r) Q):Ok (o.bind f) Q:=by
 obtain⟨r,rfl,hr⟩:=h;exact k r hr
theorem Ok.bind' {γ:Type} {g:α->γ} {k:γ->Option β} (h:Ok o P) (q: ∀r,P r->Ok (k (g r)) Q):Ok ((o.bind λr=>some (g r)).bind k) Q:=by
 obtain⟨r,rfl,hr⟩:=h;exact q r hr
theorem Ok.eq {v:α} (e:o=some v) (k:Ok (f v) Q):Ok (o.bind f) Q:=by subst e;exact k
theorem Ok.opt {x:α} {d:Option β} (h:Ok (f x) Q):Ok (dM (some x) d f) Q:=h
theorem Ok.Vy {d:Option β} (h:Ok d Q):Ok (dM none d f) Q:=h
theorem Ok.pure {r:α} (h:P r):Ok (some r) P:=⟨r,J,h⟩
theorem Ok.ite (h1:c->Ok a P) (h2: ¬c->Ok b P):Ok (if c then a else b) P:=by
 split
 ·exact h1 ‹_›
 ·exact h2 ‹_›
theorem Ok.br (hc:c) (h:Ok a P):Ok (if c then a else none) P:=by rw[ah hc];exact h
theorem Ok.pos (hc:c) (h:Ok a P):Ok (if c then a else b) P:=by rw[ah hc];exact h
theorem Ok.neg (hc: ¬c) (h:Ok b P):Ok (if c then a else b) P:=by rw[ak hc];exact h
theorem Ok.mono {P':α->Prop} (h:Ok o P) (k: ∀r,P r->P' r):Ok o P':=by
 obtain⟨r,e,hr⟩:=h;exact⟨r,e,k r hr⟩
theorem Ok.of {r:α} (e:o=some r) (h:P r):Ok o P:=⟨r,e,h⟩
end
theorem wi {x:Int} (h1: -9223372036854775808<=x) (h2:x<=9223372036854775807):af x=x:=bd h1 h2
theorem Hm {α:Type} [Inhabited α] {l:List α} {e:α}:e∈l↔ ∃c:Int,0<=c/\c<l.length/\rd l c=e:=by
 constructor
 ·intro h;obtain⟨i,hi,rfl⟩:=List.getElem_of_mem h;exact⟨i,by omega,by omega,by rw[iU (by simpa using hi)];simp⟩
 ·rintro⟨c,h0,h1,rfl⟩;exact sV h0 h1
theorem PU {α:Type} [Inhabited α] {l:List α} {i j:Int} (i0:0<=i) (i1:i<l.length) (j0:0<=j) (j1:j<l.length) (e:α):
 e∈aD (aD l i.toNat (rd l j)) j.toNat (rd l i)↔e∈l:=by
 rw[Hm,Hm];have h: ∀c:Int,0<=c->rd (aD (aD l i.toNat (rd l j)) j.toNat (rd l i)) c=if c=j then rd l i else if c=i then rd l j else rd l c:=by
  intro c c0;rw[Bl j0 (by simpa using j1) c0,Bl i0 i1 c0]
 simp only[nO];constructor
 ·rintro⟨c,c0,c1,rfl⟩;rw[h c c0];split
  ·exact⟨i,i0,i1,J⟩
  ·split
   ·exact⟨j,j0,j1,J⟩
   ·exact⟨c,c0,c1,J⟩
 ·rintro⟨c,c0,c1,rfl⟩
  by_cases a:c=i
  ·exact⟨j,j0,j1,by rw[h j j0,ah J,a]⟩
  ·by_cases b:c=j
   ·refine⟨i,i0,i1,?_⟩;rw[h i i0];subst b;rw[ak U,ah J]
   ·exact⟨c,c0,c1,by rw[h c c0,ak b,ak a]⟩
def hd (l:List Int) (q:Int):Int:=match l with |[]=>q |c::_=>c
def jt (l:List Int) (p:Int):Int:=match l with |[]=>p |c::r=>jt r c
def pw (s:List bt) (p:Int) (l:List Int) (q:Int):Prop:=match l with
 |[]=>True
 |c::r=>(rd s c).cU=p/\(rd s c).bc=hd r q/\pw s c r q
theorem PD {s:List bt}: ∀(A:List Int) (p:Int) (B:List Int) (q:Int),pw s p (A++B) q↔pw s p A (hd B q)/\pw s (jt A p) B q
 |[],p,B,q=>by simp[pw,jt]
 |c::r,p,B,q=>by
  have e:hd (r++B) q=hd r (hd B q):=by cases r<;>rfl
  simp only[List.cons_append,pw,jt,PD r c B q,e];exact⟨λ⟨a,b,c,d⟩=>⟨⟨a,b,c⟩,d⟩,λ⟨⟨a,b,c⟩,d⟩=>⟨a,b,c,d⟩⟩
theorem E0 {s s':List bt}: ∀(A:List Int) (p q:Int),(∀c∈A,(rd s' c).cU=(rd s c).cU/\(rd s' c).bc=(rd s c).bc)->pw s p A q->pw s' p A q
 |[],_,_,_,_=>trivial
 |c::r,p,q,h,hs=>by
  have:=h c (mD ..);exact⟨this.1.trans hs.1,this.2.trans hs.2.1,E0 r c q (λd hd=>h d (oH _ hd)) hs.2.2⟩
theorem G_: ∀(A:List Int) (p:Int),A≠[]->jt A p∈A
 |[],_,h=>absurd J h
 |[c],_,_=>mD ..
 |c::d::r,p,_=>oH _ (G_ (d::r) c bp)
theorem OM: ∀(A:List Int) (p:Int) (B:List Int),jt (A++B) p=jt B (jt A p)
 |[],_,_=>rfl
 |c::r,p,B=>by simp only[List.cons_append,jt];exact OM r c B
theorem W0 {s s':List bt}: ∀(A:List Int) (p q q':Int),A≠[]->A.Nodup->(∀c∈A,(rd s' c).cU=(rd s c).cU/\(c≠jt A p->(rd s' c).bc=(rd s c).bc))->(rd s' (jt A p)).bc=q'->pw s p A q->pw s' p A q'
 |[],_,_,_,h,_,_,_,_=>absurd J h
 |[c],p,q,q',_,_,h,e,hs=>⟨(h c (mD ..)).1.trans hs.1,e,trivial⟩
 |c::d::r,p,q,q',_,hn,h,e,hs=>by
  have iR:c≠jt (d::r) c:=λz=>(List.nodup_cons.1 hn).1 (z▸G_ (d::r) c bp);have:=h c (mD ..);exact⟨this.1.trans hs.1,(this.2 iR).trans hs.2.1,W0 (d::r) c q q' bp (List.nodup_cons.1 hn).2 (λx hx=>h x (oH _ hx)) e hs.2.2⟩
theorem WZ {s s':List bt}: ∀(A:List Int) (p p' q:Int),(∀c∈A,(rd s' c).bc=(rd s c).bc/\(c≠hd A q->(rd s' c).cU=(rd s c).cU))->A.Nodup->(A≠[]->(rd s' (hd A q)).cU=p')->pw s p A q->pw s' p' A q
 |[],_,_,_,_,_,_,_=>trivial
 |c::r,p,p',q,h,hn,e,hs=>by
  refine⟨e bp,(h c (mD ..)).1.trans hs.2.1,E0 r c q (λd h_=>?_) hs.2.2⟩;have:=h d (oH _ h_);exact⟨this.2 λz=>(List.nodup_cons.1 hn).1 (by have z:d=c:=z;rw[<-z];exact h_),this.1⟩
structure q_ (l:fJ) (k:Int) (ord:List Int):Prop where
 k_:l.k=k
 kb:1<=k/\k<=1000000
 lW:l.aw.length<=k
 nd:ord.Nodup
 mem: ∀c,c∈ord↔0<=c/\c<l.aw.length
 w9:pw l.aw (-1) ord (-1)
 nw:l.cJ=hd ord (-1)
 ol:l.dp=jt ord (-1)
 sn:(l.fg.map (·.1)).Nodup
 sl: ∀key c,dW l.fg key=some c↔0<=c/\c<l.aw.length/\(rd l.aw c).key=key
structure AL (l:fJ) (ord:List Int):Prop where
 nd:ord.Nodup
 mem: ∀c∈ord,0<=c/\c<l.aw.length
 w9:pw l.aw (-1) ord (-1)
 nw:l.cJ=hd ord (-1)
 ol:l.dp=jt ord (-1)
theorem afv {k:Int} (h1:1<=k) (h2:k<=1000000): ∃l,yg.f k=some (some l)/\q_ l k []:=by
 unfold yg.f zR.f;rw[ak U];exact⟨_,J,J,⟨h1,h2⟩,by simp;omega,List.nodup_nil,λc=>by simp,trivial,J,J,List.nodup_nil,λkey c=>by simp[dW];omega⟩
theorem aaM {l:fJ} {k:Int} {ord:List Int} (h:q_ l k ord): ∃l',zS.f l=some l'/\q_ l' k []:=
 ⟨_,J,h.k_,h.kb,by have:=h.kb;simp;omega,List.nodup_nil,λc=>by simp,trivial,J,J,List.nodup_nil,λkey c=>by simp[dW];omega⟩
theorem OZ {A B:List Int} {c:Int} (h:(A++c::B).Nodup):c∉A/\c∉B/\(A++B).Nodup:=by
 rw[List.nodup_append] at h⊢;obtain⟨h1,h2,h3⟩:=h;obtain⟨h4,h5⟩:=List.nodup_cons.1 h2;exact⟨λz=>h3 c z c (mD ..) J,h4,h1,h5,λa ha b hb=>h3 a ha b (oH _ hb)⟩
theorem Xr {l:fJ} {A B:List Int} {c:Int} (h:AL l (A++c::B)): ∃l',ub.f l c=some l'/\l'.k=l.k/\l'.fg=l.fg/\l'.aw.length=l.aw.length/\(∀d:Int,0<=d->(rd l'.aw d).key=(rd l.aw d).key)/\AL l' (A++B):=by
 obtain⟨n1,n2,n3⟩:=OZ h.nd;have hc:=h.mem c bp;obtain⟨g1,g2,g3,g4⟩:=(PD A (-1) (c::B) (-1)).1 h.w9;simp only[hd] at g1;obtain⟨nA,nB,Vd⟩:=List.nodup_append.1 n3;have hA:A≠[]->0<=jt A (-1)/\jt A (-1)<l.aw.length:=λz=>h.mem _ (List.mem_append_left _ (G_ A _ z));have hB:B≠[]->0<=hd B (-1)/\hd B (-1)<l.aw.length/\hd B (-1)∈B:=λz=>by
  cases B with
  |nil=>exact absurd J z
  |cons d r=>have:=h.mem d bp;exact⟨this.1,this.2,mD ..⟩
 unfold ub.f;rw[ah hc];have s1: ∃S N,(if((rd l.aw c).cU==(-1))=true then(some (l.aw,(rd l.aw c).bc)) else(if(0<=(rd l.aw c).cU/\(rd l.aw c).cU<(aa l.aw:Int)) then(some ((aD l.aw (ax ((rd l.aw c).cU)) (bt.mk ((rd l.aw ((rd l.aw c).cU)).key) ((rd l.aw ((rd l.aw c).cU)).cU) ((rd l.aw c).bc))),l.cJ)) else none))=some (S,N)/\S.length=l.aw.length/\(∀d:Int,0<=d->(rd S d).key=(rd l.aw d).key/\(d∉A->rd S d=rd l.aw d))/\pw S (-1) A (hd B (-1))/\N=hd (A++B) (-1):=by
  rw[g2,g3]
  by_cases z:A=[]
  ·subst z;rw[ah (by simp[jt])]
   exact⟨_,_,J,J,λd _=>⟨J,λ_=>rfl⟩,trivial,J⟩
  ·have ha:=hA z;have ei: ∀d:Int,0<=d->rd (aD l.aw (jt A (-1)).toNat (bt.mk (rd l.aw (jt A (-1))).key (rd l.aw (jt A (-1))).cU (hd B (-1)))) d=if d=jt A (-1) then bt.mk (rd l.aw (jt A (-1))).key (rd l.aw (jt A (-1))).cU (hd B (-1)) else rd l.aw d:=λd d0=>mr ha.1 ha.2 d0
   rw[ak bo,ah ha];refine⟨_,_,J,by simp,λd d0=>?_,W0 A (-1) c _ z nA (λd h_=>?_) ?_ g1,?_⟩
   ·rw[ei d d0];refine⟨?_,λh_=>?_⟩
    ·split
     ·rename_i q;rw[q]
     ·rfl
    ·rw[ak];rintro rfl;exact h_ (G_ A _ z)
   ·have:=h.mem d (List.mem_append_left _ h_);rw[ei d this.1];refine⟨?_,λq=>by rw[ak q]⟩
    split
    ·rename_i q;rw[q]
    ·rfl
   ·rw[ei _ ha.1,ah J]
   ·rw[h.nw];cases A with
    |nil=>exact absurd J z
    |cons a A=>rfl
 obtain⟨S,N,e,zA,Eh,Sz,hN⟩:=s1;rw[e];simp only[aM];have hSB:pw S c B (-1):=E0 B c (-1) (λd h_=>by
  have:=h.mem d (List.mem_append_right _ (oH _ h_));rw[(Eh d this.1).2 λq=>Vd d q d h_ J];exact⟨J,J⟩) g4
 rw[g2,g3]
 by_cases z:B=[]
 ·subst z;rw[ah (by simp[hd])]
  refine⟨_,J,J,J,zA,λd d0=>(Eh d d0).1,n3,λd h_=>?_,?_,hN,?_⟩
  ·rw[zA];exact h.mem d (by simp at h_;simp[h_])
  ·rw[tv];exact Sz
  ·rw[tv]
 ·have hb:=hB z;have ei: ∀d:Int,0<=d->rd (aD S (hd B (-1)).toNat (bt.mk (rd S (hd B (-1))).key (jt A (-1)) (rd S (hd B (-1))).bc)) d=if d=hd B (-1) then bt.mk (rd S (hd B (-1))).key (jt A (-1)) (rd S (hd B (-1))).bc else rd S d:=λd d0=>mr hb.1 (by rw[zA];exact hb.2.1) d0
  rw[ak bo,ah (by rw[zA];exact⟨hb.1,hb.2.1⟩)]
  refine⟨_,J,J,J,by simpa using zA,λd d0=>?_,n3,λd h_=>?_,?_,hN,?_⟩
  ·rw[<-(Eh d d0).1];simp only;rw[ei d d0];split
   ·rename_i q;rw[q]
   ·rfl
  ·simp only[nO];rw[zA];refine h.mem d ?_;rcases List.mem_append.1 h_ with q |q
   ·exact List.mem_append_left _ q
   ·exact List.mem_append_right _ (oH _ q)
  ·refine(PD A (-1) B (-1)).2 ⟨E0 A (-1) _ (λd h_=>?_) Sz,WZ B c (jt A (-1)) (-1) (λd h_=>?_) nB (λ_=>?_) hSB⟩
   ·have:=h.mem d (List.mem_append_left _ h_);rw[ei d this.1,ak (λq=>Vd d h_ (hd B (-1)) hb.2.2 q)];exact⟨J,J⟩
   ·have:=h.mem d (List.mem_append_right _ (oH _ h_));rw[ei d this.1];refine⟨?_,λq=>by rw[ak q]⟩
    split
    ·rename_i q;rw[q]
    ·rfl
   ·rw[ei _ hb.1,ah J]
  ·simp only;rw[h.ol,OM,OM]
   cases B with
   |nil=>exact absurd J z
   |cons d r=>rfl
theorem OH {l:fJ} {ord:List Int} {c:Int} (h:AL l ord) (h0:0<=c) (h1:c<l.aw.length) (hc:c∉ord): ∃l',yf.f l c=some l'/\l'.k=l.k/\l'.fg=l.fg/\l'.aw.length=l.aw.length/\(∀d:Int,0<=d->(rd l'.aw d).key=(rd l.aw d).key)/\AL l' (c::ord):=by
 unfold yf.f;generalize zA:aD l.aw (ax c) (bt.mk ((rd l.aw c).key) (-1) ((rd l.aw c).bc))=S1;have vj:S1.length=l.aw.length:=by rw[<-zA];simp
 have r1: ∀d:Int,0<=d->rd S1 d=if d=c then bt.mk ((rd l.aw c).key) (-1) ((rd l.aw c).bc) else rd l.aw d:=λd d0=>by rw[<-zA];exact mr h0 h1 d0
 generalize Eh:aD S1 (ax c) (bt.mk ((rd S1 c).key) ((rd S1 c).cU) l.cJ)=S2;have vk:S2.length=l.aw.length:=by rw[<-Eh];simpa using vj
 have r2: ∀d:Int,0<=d->rd S2 d=if d=c then bt.mk ((rd l.aw c).key) (-1) l.cJ else rd l.aw d:=λd d0=>by
  rw[<-Eh,mr h0 U d0,r1 c h0,ah J];split
  ·rfl
  ·rename_i q;rw[r1 d d0,ak q]
 rw[ah ⟨h0,h1⟩,ah ⟨h0,by omega⟩]
 have T6: ∀d:Int,0<=d->(rd S2 d).key=(rd l.aw d).key:=λd d0=>by
  rw[r2 d d0];split
  ·rename_i q;rw[q]
  ·rfl
 have tX:(c::ord).Nodup:=List.nodup_cons.2 ⟨hc,h.nd⟩
 by_cases z:ord=[]
 ·subst z;have hn:l.cJ= -1:=h.nw;rw[ah (by simp[hn])]
  refine⟨_,J,J,J,vk,T6,tX,λd h_=>?_,⟨?_,?_,trivial⟩,J,J⟩
  ·simp only[nh,ra,or_false] at h_;subst h_;simp only;omega
  ·simp only;rw[r2 c h0,ah J]
  ·simp only;rw[r2 c h0,ah J,hn];rfl
 ·obtain⟨a,r,e⟩:=List.exists_cons_of_ne_nil z;have hn:l.cJ=a:=by rw[h.nw,e];rfl
  have ha:=h.mem a (by rw[e];exact mD ..)
  have Nd:a≠c:=λq=>hc (by rw[e,<-q];exact mD ..)
  rw[hn] at r2⊢;rw[ak bo,ah (by rw[vk];exact ha)]
  have r3: ∀d:Int,0<=d->rd (aD S2 a.toNat (bt.mk (rd S2 a).key c (rd S2 a).bc)) d=if d=a then bt.mk (rd S2 a).key c (rd S2 a).bc else rd S2 d:=λd d0=>mr ha.1 (by rw[vk];exact ha.2) d0
  refine⟨_,J,J,J,by simpa using vk,λd d0=>?_,tX,λd h_=>?_,⟨?_,?_,?_⟩,J,?_⟩
  ·rw[<-T6 d d0];simp only;rw[r3 d d0];split
   ·rename_i q;rw[q]
   ·rfl
  ·simp only[nO];rw[vk];rcases List.mem_cons.1 h_ with rfl |q
   ·exact⟨h0,h1⟩
   ·exact h.mem d q
  ·simp only;rw[r3 c h0,ak Nd.symm,r2 c h0,ah J]
  ·simp only;rw[r3 c h0,ak Nd.symm,r2 c h0,ah J,e];rfl
  ·refine WZ ord (-1) c (-1) (λd h_=>?_) h.nd (λ_=>?_) h.w9
   ·have:=h.mem d h_;have J6:d≠c:=λq=>hc (q▸h_);rw[r3 d this.1];refine⟨?_,λq=>?_⟩
    ·split
     ·rename_i q;rw[q,r2 a ha.1,ak Nd]
     ·rw[r2 d this.1,ak J6]
    ·rw[e] at q;simp only[hd] at q;rw[ak q,r2 d this.1,ak J6]
   ·rw[e];simp only[hd];rw[r3 a ha.1,ah J]
  ·simp only;rw[h.ol,e];rfl
theorem q_.U7 {l:fJ} {k:Int} {ord:List Int} (h:q_ l k ord):AL l ord:=⟨h.nd,λc hc=>(h.mem c).1 hc,h.w9,h.nw,h.ol⟩
theorem aiG {l:fJ} {k:Int} {ord:List Int} (h:q_ l k ord) (a b:Int):Ok (ye.f l a b) (λr=> ∃A B,q_ r.2.2.2 k (r.1::(A++B))/\
 ((r.2.1=true/\r.2.2.1=false/\dW l.fg (a,b)=some r.1/\ord=A++r.1::B/\r.2.2.2.aw.length=l.aw.length/\ ∀d:Int,0<=d->(rd r.2.2.2.aw d).key=(rd l.aw d).key)∨
  (r.2.1=false/\r.2.2.1=false/\dW l.fg (a,b)=none/\ord=A++B/\r.1=l.aw.length/\r.2.2.2.aw.length=l.aw.length+1/\(∀d:Int,0<=d->d<l.aw.length->(rd r.2.2.2.aw d).key=(rd l.aw d).key)/\(rd r.2.2.2.aw r.1).key=(a,b))∨
  (r.2.1=false/\r.2.2.1=true/\dW l.fg (a,b)=none/\ord=A++r.1::B/\B=[]/\(l.aw.length:Int)=k/\r.2.2.2.aw.length=l.aw.length/\(∀d:Int,0<=d->d≠r.1->(rd r.2.2.2.aw d).key=(rd l.aw d).key)/\(rd r.2.2.2.aw r.1).key=(a,b)))):=by
 have Kb:=h.kb;have J_:=h.lW;unfold ye.f
 cases hg:dW l.fg (a,b) with
 |some c=>
  have hm:ck l.fg (a,b)=true:=by unfold ck;rw[hg];rfl
  have hv:aT l.fg (a,b)=c:=by unfold aT;rw[hg];rfl
  obtain⟨c0,c1,c2⟩:=(h.sl (a,b) c).1 hg;obtain⟨A,B,JM⟩:=List.append_of_mem ((h.mem c).2 ⟨c0,c1⟩);obtain⟨l1,e1,k1,HZ,n1,KM,vq⟩:=Xr (A:=A) (B:=B) (c:=c) (JM▸h.U7);rw[hm,hv,ah J,e1];simp only[aM];have tX:=h.nd;rw[JM] at tX;obtain⟨nA,nB,_⟩:=OZ tX;have G5:AL ⟨l1.k,l1.aw,cQ l1.fg (a,b) c,l1.cJ,l1.dp⟩ (A++B):=⟨vq.nd,vq.mem,vq.w9,vq.nw,vq.ol⟩;obtain⟨l2,e2,k2,w_,n2,pO,sM⟩:=OH (c:=c) G5 c0 (by simp only;omega) (by simp[nA,nB])
  rw[e2];simp only at k2 w_ n2 pO;have ky: ∀d:Int,0<=d->(rd l2.aw d).key=(rd l.aw d).key:=λd d0=>(pO d d0).trans (KM d d0);refine Ok.pure ⟨A,B,⟨by simp only;rw[k2,k1];exact h.k_,Kb,by simp only;omega,sM.nd,λd=>?_,sM.w9,sM.nw,sM.ol,?_,λkey d=>?_⟩,.inl ⟨J,J,J,JM,by simp only;omega,ky⟩⟩
  ·have:=h.mem d;rw[JM] at this;simp only[n2,n1,nh,List.mem_append] at this⊢;rw[<-this];constructor
   ·rintro(q |q |q)
    ·exact .inr (.inl q)
    ·exact .inl q
    ·exact .inr (.inr q)
   ·rintro(q |q |q)
    ·exact .inr (.inl q)
    ·exact .inl q
    ·exact .inr (.inr q)
  ·simp only;rw[w_,HZ];exact OO h.sn _ _
  ·simp only;rw[w_,HZ,ED,n2,n1]
   by_cases q:(a,b)=key
   ·rw[ah q,<-q];constructor
    ·intro w;simp only[Option.some.injEq] at w;subst w;exact⟨c0,c1,by rw[ky c c0];exact c2⟩
    ·rintro⟨w0,w1,w2⟩;rw[ky d w0] at w2;rw[<-hg];exact(h.sl _ _).2 ⟨w0,w1,w2⟩
   ·rw[ak q,h.sl key d];exact⟨λ⟨w0,w1,w2⟩=>⟨w0,w1,by rw[ky d w0];exact w2⟩,λ⟨w0,w1,w2⟩=>⟨w0,w1,by rw[ky d w0] at w2;exact w2⟩⟩
 |none=>
  have hm:ck l.fg (a,b)=false:=by unfold ck;rw[hg];rfl
  have oY: ∀d:Int,0<=d->d<l.aw.length->(rd l.aw d).key≠(a,b):=λd d0 d1 e=>by
   have:=(h.sl (a,b) d).2 ⟨d0,d1,e⟩;rw[hg] at this;simp at this
  rw[hm,ak bp]
  by_cases aS:(l.aw.length:Int)<l.k
  ·rw[h.k_] at aS;rw[h.k_,ah aS,ah U];simp only[aM];have GN: ∀d:Int,0<=d->d<l.aw.length->rd (l.aw++[bt.mk (a,b) 0 0]) d=rd l.aw d:=λd d0 d1=>vw d0 d1
   have Ev:rd (l.aw++[bt.mk (a,b) 0 0]) (l.aw.length:Int)=bt.mk (a,b) 0 0:=by rw[HI U (dU _),ah J]
   have G5:AL ⟨k,l.aw++[bt.mk (a,b) 0 0],cQ l.fg (a,b) (l.aw.length:Int),l.cJ,l.dp⟩ ord:=
    ⟨h.nd,λc hc=>by have:=(h.mem c).1 hc;simp;omega,E0 ord _ _ (λc hc=>by have:=(h.mem c).1 hc;simp only;rw[GN c this.1 this.2];exact⟨J,J⟩) h.w9,h.nw,h.ol⟩
   have iR:(l.aw.length:Int)∉ord:=λz=>by have:=(h.mem _).1 z;omega
   obtain⟨l2,e2,k2,w_,n2,pO,sM⟩:=OH (c:=(l.aw.length:Int)) G5 U bo iR;rw[e2];simp only[zg,tz,List.length_nil] at k2 w_ n2 pO;refine Ok.pure ⟨[],ord,⟨k2,Kb,by simp only;omega,sM.nd,λd=>?_,sM.w9,sM.nw,sM.ol,?_,λkey d=>?_⟩,.inr (.inl ⟨J,J,by first |rfl |trivial,J,J,by simp only;omega,λd d0 d1=>?_,?_⟩)⟩
   ·simp only[List.nil_append,nh,n2];rw[h.mem d];omega
   ·simp only;rw[w_];exact OO h.sn _ _
   ·simp only;rw[w_,ED,n2]
    by_cases q:(a,b)=key
    ·rw[ah q,<-q];constructor
     ·intro w;simp only[Option.some.injEq] at w;subst w;exact⟨by omega,by omega,by rw[pO _ U,Ev]⟩
     ·rintro⟨w0,w1,w2⟩
      by_cases y:d=l.aw.length
      ·rw[y]
      ·rw[pO d w0,GN d w0 U] at w2;exact absurd w2 (oY d w0 U)
    ·rw[ak q,h.sl key d];constructor
     ·rintro⟨w0,w1,w2⟩;exact⟨w0,by omega,by rw[pO d w0,GN d w0 w1];exact w2⟩
     ·rintro⟨w0,w1,w2⟩
      by_cases y:d=l.aw.length
      ·rw[y,pO _ U,Ev] at w2;exact absurd w2 q
      ·rw[pO d w0,GN d w0 U] at w2;exact⟨w0,by omega,w2⟩
   ·simp only;rw[pO d d0,GN d d0 d1]
   ·simp only;rw[pO _ U,Ev]
  ·rw[h.k_] at aS;rw[h.k_,ak aS];have bK:ord≠[]:=λz=>by have:=(h.mem 0).2 U;rw[z] at this;simp at this
   have hlm:=G_ ord (-1) bK;have sG:=(h.mem _).1 hlm;obtain⟨A,hA⟩: ∃A,ord=A++jt ord (-1)::[]:=by
    refine⟨ord.dropLast,?_⟩;have:jt ord (-1)=ord.getLast bK:=by
     have: ∀(L:List Int) (p:Int) (hL:L≠[]),jt L p=L.getLast hL:=by
      intro L
      induction L with
      |nil=>intro p hL;exact absurd J hL
      |cons c r ih=>
       intro p hL
       cases r with
       |nil=>rfl
       |cons d r=>rw[List.getLast_cons bp];exact ih c bp
     exact this ord (-1) bK
    rw[this,List.dropLast_concat_getLast]
   rw[<-h.ol] at hA sG;generalize hc:l.dp=c at*;obtain⟨l1,e1,k1,HZ,n1,KM,vq⟩:=Xr (A:=A) (B:=[]) (c:=c) (hA▸h.U7);rw[e1];simp only[aM];rw[ah U];simp only[aM];have hck:((rd l1.aw c).key.1,(rd l1.aw c).key.2)=(rd l.aw c).key:=by rw[KM c sG.1]
   rw[hck];have hr: ∀d:Int,0<=d->rd (aD l1.aw c.toNat (bt.mk (a,b) (rd l1.aw c).cU (rd l1.aw c).bc)) d=if d=c then bt.mk (a,b) (rd l1.aw c).cU (rd l1.aw c).bc else rd l1.aw d:=λd d0=>mr sG.1 U d0
   have tX:=h.nd;rw[hA] at tX;obtain⟨nA,nB,_⟩:=OZ tX;have G5:AL ⟨l1.k,aD l1.aw c.toNat (bt.mk (a,b) (rd l1.aw c).cU (rd l1.aw c).bc),cQ (f_ l1.fg (rd l.aw c).key) (a,b) c,l1.cJ,l1.dp⟩ (A++[]):=
    ⟨vq.nd,λd h_=>by simp only[nO];exact vq.mem d h_,E0 _ _ _ (λd h_=>by
      have:=vq.mem d h_;simp only;rw[hr d this.1,ak (λq=>nA (by rw[<-q];simpa using h_))];exact⟨J,J⟩) vq.w9,vq.nw,vq.ol⟩
   obtain⟨l2,e2,k2,w_,n2,pO,sM⟩:=OH (c:=c) G5 sG.1 bo (by simpa using nA)
   rw[e2];simp only[nO] at k2 w_ n2 pO;have ky: ∀d:Int,0<=d->d≠c->(rd l2.aw d).key=(rd l.aw d).key:=λd d0 J6=>by rw[pO d d0,hr d d0,ak J6,KM d d0]
   have Kc:(rd l2.aw c).key=(a,b):=by rw[pO c sG.1,hr c sG.1,ah J]
   refine Ok.pure ⟨A,[],⟨by simp only;rw[k2,k1];exact h.k_,Kb,by simp only;omega,sM.nd,λd=>?_,sM.w9,sM.nw,sM.ol,?_,λkey d=>?_⟩,.inr (.inr ⟨J,J,by first |rfl |trivial,hA,J,by omega,by simp only;omega,ky,Kc⟩)⟩
   ·have:=h.mem d;rw[hA] at this;simp only[n2,n1,nh,List.mem_append,ra,or_false] at this⊢;rw[<-this];exact or_comm
   ·simp only;rw[w_,HZ];exact OO (afF h.sn _) _ _
   ·simp only;rw[w_,HZ,ED,afI h.sn,n2,n1]
    by_cases q:(a,b)=key
    ·rw[ah q,<-q];constructor
     ·intro w;simp only[Option.some.injEq] at w;subst w;exact⟨sG.1,sG.2,Kc⟩
     ·rintro⟨w0,w1,w2⟩
      by_cases y:d=c
      ·rw[y]
      ·rw[ky d w0 y] at w2;exact absurd w2 (oY d w0 w1)
    ·rw[ak q]
     by_cases y:(rd l.aw c).key=key
     ·rw[ah y];constructor
      ·intro w;simp at w
      ·rintro⟨w0,w1,w2⟩
       by_cases x:d=c
       ·rw[x,Kc] at w2;exact absurd w2 q
       ·rw[ky d w0 x] at w2;have a1:=(h.sl key d).2 ⟨w0,w1,w2⟩;have a2:=(h.sl key c).2 ⟨sG.1,sG.2,y⟩;rw[a1] at a2;simp only[Option.some.injEq] at a2;exact absurd a2 x
     ·rw[ak y,h.sl key d];constructor
      ·rintro⟨w0,w1,w2⟩;have x:d≠c:=λx=>y (by rw[<-x];exact w2)
       exact⟨w0,w1,by rw[ky d w0 x];exact w2⟩
      ·rintro⟨w0,w1,w2⟩;have x:d≠c:=λx=>q (by rw[x,Kc] at w2;exact w2)
       exact⟨w0,w1,by rw[ky d w0 x] at w2;exact w2⟩
theorem ae0 {l:fJ} {k:Int} {ord:List Int} (h:q_ l k ord): ∀(r:List Int) (n:Nat) (x:List (Int×Int)) (p:Int),(∀c∈r,c∈ord)->pw l.aw p r (-1)->r.length<n->x.length+r.length<=2000000->
 o0.l0 n l x (hd r (-1))=some (x++r.map (λc=>(rd l.aw c).key)):=by
 intro r
 induction r with
 |nil=>
  intro n x p _ _ hn _;obtain⟨n,rfl⟩:=bw hn;rw[o0.l0,ak (by simp[hd])];simp
 |cons c r ih=>
  intro n x p hr hs hn hx;obtain⟨n,rfl⟩:=bw hn;simp only[tz] at hn hx;have hc:=(h.mem c).1 (hr c (mD ..));have e:hd (c::r) (-1)=c:=rfl;rw[o0.l0,e,ah bo,ah hc,ah U,hs.2.1,ih n _ c (λd h_=>hr d (oH _ h_)) hs.2.2 U bo];simp
theorem Vz {n:Nat} {ord:List Int} (hn:ord.Nodup) (hm: ∀c,c∈ord↔0<=c/\c<n):ord.length=n:=by
 have hp:ord.Perm ((List.range n).map Int.ofNat):=by
  refine(List.perm_ext_iff_of_nodup hn ?_).2 λc=>?_
  ·exact(List.nodup_range).map _ λa b wj e=>wj (Int.ofNat.inj e)
  ·rw[hm c];simp only[List.mem_map,List.mem_range];exact⟨λ⟨a,b⟩=>⟨c.toNat,by omega,by simp;omega⟩,λ⟨a,b,e⟩=>by subst e;simp;omega⟩
 have:=hp.length_eq;simpa using this
theorem afu {l:fJ} {k:Int} {ord:List Int} (h:q_ l k ord):o0.f l=some (ord.map λc=>(rd l.aw c).key):=by
 have hl:=Vz h.nd h.mem;have:=h.lW;have:=h.kb;unfold o0.f;rw[h.nw,ae0 h ord fuel [] (-1) (λc hc=>hc) h.w9 (by rw[de];omega) bo];rfl
def si (t:aG):Prop:=1<=t.W/\t.W<=16/\1<=t.H/\t.H<=16/\(t.C.length:Int)=t.W*t.H/\0∉t.C
instance (t:aG):Decidable (si t):=by unfold si;infer_instance
theorem oB {t:aG} (h:si t):1<=t.C.length/\t.C.length<=256:=by
 obtain⟨a,b,c,d,e,_⟩:=h;have h1:t.W*t.H<=16*16:=kU U U b d;have h2:1*1<=t.W*t.H:=kU U U a c;omega
theorem Lp (t:aG) (hb:t.C.length<4611686018427387904):uH.f t=some (decide (si t)):=by
 unfold uH.f BK.f;simp only[aM]
 by_cases hw:1<=t.W/\t.W<=16
 ·by_cases hh:1<=t.H/\t.H<=16
  ·have h1:t.W*t.H<=16*16:=kU U U hw.2 hh.2;have h2:0<=t.W*t.H:=nu U U;rw[ah bo,ah bo,bd U U,My _ _ hb]
   by_cases hl:(t.C.length:Int)=t.W*t.H
   ·rw[ah (by simpa using hl)]
    simp only[aM]
    congr 1
    rw[nM];simp[si,hw,hh,hl]
   ·rw[ak (by simpa using hl),decide_eq_false (λq=>hl q.2.2.2.2.1)];rfl
  ·rw[ah bo,ak bo,decide_eq_false (λq=>hh ⟨q.2.2.1,q.2.2.2.1⟩)];rfl
 ·rw[ak bo,decide_eq_false (λq=>hw ⟨q.1,q.2.1⟩)];rfl
def mF (t:aG):Prop:=si t/\ ∀c:Int,0<=c->c<t.C.length->1<=rd t.C c/\rd t.C c<=255
theorem aiy {t:aG} (h:mF t) (c:Int):BJ.f t c=some (if 0<=c/\c<t.C.length then rd t.C c else 0):=by
 have hl:=oB h.1;unfold BJ.f Fb.f;rw[Lp _ U,decide_eq_true h.1]
 by_cases a:0<=c
 ·by_cases b:c<t.C.length
  ·have:=h.2 c a b;rw[ah a,ah b,ah ⟨a,b⟩];simp only[aM,Bool.not_true,jk,if_false];rw[ah ⟨a,b⟩,wi U U]
  ·simp only[ah a,ak b,ak (show ¬(0<=c/\c<t.C.length) from λq=>b q.2)];rfl
 ·simp only[ge_iff_le,ak a,ak (show ¬(0<=c/\c<t.C.length) from λq=>a q.1)];rfl
def fo (w h c side:Int):Int:=if bk w h c side<0∨aR w h (bk w h c side)=aR w h c then-1 else bk w h c side
theorem VE (w h c side:Int):zp.f w h c side=some (fo w h c side):=by
 unfold zp.f fo;rw[E9,aM]
 by_cases h1:bk w h c side<0
 ·rw[ah h1,ah (Or.inl h1)];rfl
 ·rw[ak h1,rK,aM,rK,aM]
  by_cases h2:aR w h (bk w h c side)=aR w h c
  ·rw[ah (Or.inr h2),h2];simp
  ·rw[ak (c:=_∨_) (λq=>q.elim h1 h2)];simp[h2]
theorem agy {w h c side:Int} (hn: ¬(0<=side/\side<=3)):fo w h c side= -1:=by
 unfold fo
 by_cases hc:cV w h c
 ·by_cases h4:side=4
  ·subst h4;rw[ais hc,ah (Or.inr rfl)]
  ·have:bk w h c side= -1:=by unfold bk;rw[ak U]
   rw[this,ah (Or.inl U)]
 ·have:bk w h c side= -1:=by unfold bk;rw[ak (λq=>hc q.1)]
  rw[this,ah (Or.inl U)]
theorem HD {w h c side:Int} (h0:0<=fo w h c side):cV w h c/\0<=side/\side<=3/\cV w h (fo w h c side)/\fo w h c side=bk w h c side/\aR w h (fo w h c side)≠aR w h c:=by
 have CF:0<=side/\side<=3:=by
  by_cases hs:0<=side/\side<=3
  ·exact hs
  ·rw[agy hs] at h0;omega
 by_cases hq:bk w h c side<0∨aR w h (bk w h c side)=aR w h c
 ·unfold fo at h0;rw[ah hq] at h0;omega
 ·have e:fo w h c side=bk w h c side:=by unfold fo;rw[ak hq]
  have hc:cV w h c:=by
   by_cases hc:cV w h c
   ·exact hc
   ·have:bk w h c side= -1:=by unfold bk;rw[ak (λq=>hc q.1)]
    omega
  rcases E8 hc CF.1 (by omega:side<=4) with⟨h1,_⟩ |⟨h1,_⟩
  ·omega
  ·exact⟨hc,CF.1,CF.2,e▸h1,e,λq=>hq (.inr (e▸q))⟩
theorem Gj {w h s l:Int} (hs:bC w h s) (h0:0<=l) (h1:l<(ay w h s).1*(ay w h s).2):
 cV w h (cA w h s l)/\cA w h s l%w=16*(s%(bq w h).1)+l%(ay w h s).1/\cA w h s l/w=16*(s/(bq w h).1)+l/(ay w h s).1:=by
 obtain⟨a1,a2,a3,a4,a5,a6⟩:=we hs h0 h1;have hp:=uA hs;have e:cA w h s l=(16*(s/(bq w h).1)+l/(ay w h s).1)*w+(16*(s%(bq w h).1)+l%(ay w h s).1):=by unfold cA;rw[ah ⟨hs,h0,h1⟩]
 have:=tM (h:=h) (x:=16*(s%(bq w h).1)+l%(ay w h s).1) (y:=16*(s/(bq w h).1)+l/(ay w h s).1) U a5 U a6;rw[e];exact⟨⟨uz hs,this⟩,pR U a5⟩
theorem W3 {w h s:Int} (hs:bC w h s):(ay w h s).1=min 16 (w-16*(s%(bq w h).1))/\(ay w h s).2=min 16 (h-16*(s/(bq w h).1)):=by
 unfold ay;rw[ah hs];exact⟨J,J⟩
theorem EY {w h s l:Int} (hs:bC w h s) (h0:0<=l) (h1:l<(ay w h s).1*(ay w h s).2):aR w h (cA w h s l)=s:=by
 obtain⟨hc,e1,e2⟩:=Gj hs h0 h1;obtain⟨a1,a2,a3,a4,a5,a6⟩:=we hs h0 h1;obtain⟨z1,z2,z3,z4⟩:=p9 hs;unfold aR;rw[ah hc,e1,e2];have q1:(16*(s/(bq w h).1)+l/(ay w h s).1)/16=s/(bq w h).1:=U;have q2:(16*(s%(bq w h).1)+l%(ay w h s).1)/16=s%(bq w h).1:=U;rw[q1,q2];have:=uQ s (bq w h).1;rw[mC] at this;exact this
def Bt (w h s side:Int):Prop:=if side=0 then 1<=s/(bq w h).1 else if side=1 then s%(bq w h).1+1<(bq w h).1 else if side=2 then s/(bq w h).1+1<(bq w h).2 else 1<=s%(bq w h).1
def vy (tw th l side:Int):Prop:=if side=0 then l/tw=0 else if side=1 then l%tw=tw-1 else if side=2 then l/tw=th-1 else l%tw=0
instance (w h s side:Int):Decidable (Bt w h s side):=by unfold Bt;infer_instance
instance (tw th l side:Int):Decidable (vy tw th l side):=by unfold vy;infer_instance
theorem K0 {w h s l side:Int} (hs:bC w h s) (h0:0<=l) (h1:l<(ay w h s).1*(ay w h s).2) (s0:0<=side) (s3:side<=3):
 0<=fo w h (cA w h s l) side↔Bt w h s side/\vy (ay w h s).1 (ay w h s).2 l side:=by
 obtain⟨hc,e1,e2⟩:=Gj hs h0 h1;obtain⟨a1,a2,a3,a4,a5,a6⟩:=we hs h0 h1;obtain⟨z1,z2,z3,z4⟩:=p9 hs;obtain⟨y1,y2⟩:=W3 hs;obtain⟨p1,p2,p3,p4⟩:=uA hs;have zJ:=EY hs h0 h1;have hm:=uz hs;have eS:(bq w h).1=(w+15)/16/\(bq w h).2=(h+15)/16:=by unfold bq;rw[ah hm];exact⟨J,J⟩
 have zI:side=0∨side=1∨side=2∨side=3:=U;rcases E8 hc s0 (by omega:side<=4) with⟨b1,b2⟩ |⟨b1,b2,b3,b4,b5,b6,b7⟩
 ·have:fo w h (cA w h s l) side= -1:=by unfold fo;rw[b1,ah (Or.inl U)]
  rw[this];refine⟨λq=>by omega,λq=>?_⟩
  exfalso;apply b2;rw[e1,e2];obtain⟨q1,q2⟩:=q;unfold Bt at q1;unfold vy at q2;unfold dX dY;rcases zI with rfl |rfl |rfl |rfl<;>simp at q1 q2⊢ <;>omega
 ·have b8: ¬bk w h (cA w h s l) side<0:=by have:=b1.2;omega
  have key:aR w h (bk w h (cA w h s l) side)=s↔(16*(s/(bq w h).1)+l/(ay w h s).1+dY side)/16=s/(bq w h).1/\(16*(s%(bq w h).1)+l%(ay w h s).1+dX side)/16=s%(bq w h).1:=by
   have rA:=Ds b1;have vm:=pR (a:=(bq w h).1) (y:=bk w h (cA w h s l) side/w/16) rA.1 rA.2.1;have e:aR w h (bk w h (cA w h s l) side)=bk w h (cA w h s l) side/w/16*(bq w h).1+bk w h (cA w h s l) side%w/16:=by unfold aR;rw[ah b1]
   rw[<-e,b2,b3,e1,e2] at vm;constructor
   ·intro q;rw[q] at vm;exact⟨vm.2.symm,vm.1.symm⟩
   ·rintro⟨q1,q2⟩;rw[e,b2,b3,e1,e2,q1,q2];have:=uQ s (bq w h).1;rw[mC] at this;exact this
  rw[e1] at b4 b5;rw[e2] at b6 b7;unfold fo;rw[zJ]
  by_cases hq:aR w h (bk w h (cA w h s l) side)=s
  ·rw[ah (Or.inr hq)];obtain⟨k1,k2⟩:=key.mp hq;refine⟨λq=>by omega,λq=>?_⟩
   exfalso;obtain⟨q1,q2⟩:=q;unfold Bt at q1;unfold vy at q2;unfold dX at k2;unfold dY at k1;rcases zI with rfl |rfl |rfl |rfl<;>simp at q1 q2 k1 k2<;>omega
  ·rw[ak (c:=_∨_) (λq=>q.elim b8 hq)];refine⟨λ_=>?_,λ_=>by omega⟩
   rw[key] at hq;unfold Bt vy;unfold dX at hq b4 b5;unfold dY at hq b6 b7;rcases zI with rfl |rfl |rfl |rfl<;>simp at hq b4 b5 b6 b7⊢ <;>omega
instance :DecidableEq aX:=λa b=>decidable_of_iff (a.Cell=b.Cell/\a.cK=b.cK/\a.Key=b.Key) (by obtain⟨a1,a2,a3⟩:=a;obtain⟨b1,b2,b3⟩:=b;simp)
theorem PB (a b:aX):((a.Cell==b.Cell)&&((a.cK==b.cK)&&((a.Key==b.Key)&&true)))=decide (a=b):=by
 obtain⟨a1,a2,a3⟩:=a;obtain⟨b1,b2,b3⟩:=b;rw[nM];simp
theorem aaT {R:aX->aX->Prop} (s:List aX) (hs:s.Pairwise R) (hb:s.length<=1000000) {x2:Int} (h2:1<=x2/\x2<s.length): ∀(n k:Nat) (x:List aX) (x8 x9:Int),(s.length-x2-x9).toNat<=n->n<k->x.length=s.length->
 1<=x8->x8<=x2+x9-1->1<=x9->x2+x9<=s.length->(∀c:Int,x2+x9-1<=c->c<s.length->rd x c=rd s c)->
 (∀i j:Int,0<=i->i<j->j<x8->R (rd x i) (rd x j))->(∀i c:Int,0<=i->i<x8->x2+x9<=c->c<s.length->R (rd x i) (rd s c))->
 (∀i:Int,0<=i->i<x8->rd x i∈s)->(∀c:Int,0<=c->c<x2+x9-> ∃i:Int,0<=i/\i<x8/\rd x i=rd s c)->
 Ok (jT.l1 k s x2 x x8 x9) (λr=>r.length<=s.length/\(∀e,e∈r↔e∈s)/\r.Pairwise R):=by
 intro n
 induction n with
 |zero=>
  intro k x x8 x9 hn hk hx h8 Sk h9 hle hc hR Gq b_ tY;obtain⟨k,rfl⟩:=bw hk;have Ew:((aA x x2 (s.length:Int)).length:Int)=s.length-x2:=by rw[iV U];omega
  rw[jT.l1,Ew,ak U,ah U];have e:(cB x (ax x8) (aa (aA x x8 (aa x:Int))) (cy (aa (aA x x8 (aa x:Int))) (default:aX)))=x.take x8.toNat++cy (x.length-x8.toNat) default:=by
   unfold cB;rw[iV U,DT U];simp
  rw[e];have e2:aA (x.take x8.toNat++cy (x.length-x8.toNat) (default:aX)) 0 x8=x.take x8.toNat:=by
   unfold aA;simp only[Int.toNat_zero,List.drop_zero,Nat.sub_zero];rw[List.take_append_of_le_length bo,List.take_take];simp
  have hr: ∀i:Int,0<=i->i<x8->rd (x.take x8.toNat) i=rd x i:=λi i0 i1=>by
   rw[iU (xs:=List.take _ _) bo,List.getElem_take,iU U]
  have hl:(x.take x8.toNat).length=x8.toNat:=by simp;omega
  refine Ok.br bo ?_;rw[e2];refine Ok.pure ⟨by omega,λy=>⟨λhy=>?_,λhy=>?_⟩,?_⟩
  ·obtain⟨i,i0,i1,rfl⟩:=qD hy;rw[hr i i0 U];exact b_ i i0 U
  ·obtain⟨c,c0,c1,rfl⟩:=qD hy;obtain⟨i,i0,i1,q⟩:=tY c c0 U;rw[<-q,<-hr i i0 i1];exact fS i0 U
  ·refine Wy λi j i0 ij j1=>?_
   rw[hr i i0 U,hr j U U];exact hR i j i0 ij U
 |succ n ih=>
  intro k x x8 x9 hn hk hx h8 Sk h9 hle hc hR Gq b_ tY
  by_cases J8:x2+x9=s.length
  ·exact ih k x x8 x9 U U hx h8 Sk h9 hle hc hR Gq b_ tY
  obtain⟨k,rfl⟩:=bw hk;have Ew:((aA x x2 (s.length:Int)).length:Int)=s.length-x2:=by rw[iV U];omega
  have sI: ∀i:Int,0<=i->i<s.length-x2->rd (aA x x2 (s.length:Int)) i=rd x (x2+i):=λi i0 i1=>by
   unfold aA;rw[iU (xs:=List.take _ _) bo,List.getElem_take,List.getElem_drop,iU U]
   congr 1;omega
  rw[jT.l1,Ew,wi (x:=x9-1) U U];simp only[PB];rw[sI x9 U U,sI (x9-1) U U,hc (x2+x9) U U,hc (x2+(x9-1)) U U,wi (x:=x9+1) U U];refine Ok.pos U (Ok.br U (Ok.br U (Ok.ite (λq=>Ok.br U ?_) λq=>?_)))
  ·rw[wi U U];have ei: ∀c:Int,0<=c->rd (aD x x8.toNat (rd s (x2+x9))) c=if c=x8 then rd s (x2+x9) else rd x c:=λc c0=>mr U U c0
   refine ih k _ (x8+1) (x9+1) U U (by simpa using hx) U U U U (λc c0 c1=>?_) (λi j i0 ij j1=>?_) (λi c i0 i1 c0 c1=>?_) (λi i0 i1=>?_) (λc c0 c1=>?_)
   ·rw[ei c U,ak U];exact hc c U c1
   ·rw[ei i i0,ei j U,ak U];split
    ·exact Gq i _ i0 U U U
    ·exact hR i j i0 ij U
   ·rw[ei i i0];split
    ·exact yA hs U U c1
    ·exact Gq i c i0 U U c1
   ·rw[ei i i0];split
    ·exact fS U U
    ·exact b_ i i0 U
   ·by_cases z:c=x2+x9
    ·exact⟨x8,by omega,by omega,by rw[ei _ U,ah J,z]⟩
    ·obtain⟨i,i0,i1,y⟩:=tY c c0 U;exact⟨i,i0,by omega,by rw[ei i i0,ak U];exact y⟩
  ·have q:rd s (x2+x9)=rd s (x2+(x9-1)):=by simpa using q
   refine ih k x x8 (x9+1) U U hx h8 U U U (λc c0 c1=>hc c U c1) hR (λi c i0 i1 c0 c1=>Gq i c i0 i1 U c1) b_ (λc c0 c1=>?_)
   by_cases z:c=x2+x9
   ·rw[z,q];exact tY _ U U
   ·exact tY c c0 U
theorem aaS {R:aX->aX->Prop} (s:List aX) (hs:s.Pairwise R) (hb:s.length<=1000000): ∀(n k:Nat) (i:Int),(s.length-i).toNat<=n->n<k->1<=i->
 Ok (jT.l0 k s i) (λr=>r.length<=s.length/\(∀e,e∈r↔e∈s)/\r.Pairwise R):=by
 intro n
 induction n with
 |zero=>
  intro k i hn hk hi;obtain⟨k,rfl⟩:=bw hk;rw[jT.l0,ak U];exact Ok.pure ⟨jW _,λ_=>Iff.rfl,hs⟩
 |succ n ih=>
  intro k i hn hk hi;obtain⟨k,rfl⟩:=bw hk;rw[jT.l0];refine Ok.ite (λhl=>?_) λ_=>Ok.pure ⟨jW _,λ_=>Iff.rfl,hs⟩
  rw[wi (x:=i-1) U U];simp only[PB];refine Ok.br U (Ok.br U (Ok.ite (λq=>Ok.br U ?_) λq=>?_))
  ·have q:rd s i=rd s (i-1):=by simpa using q
   refine aaT s hs hb (x2:=i) U s.length fuel s i 1 U (by rw[de];omega) J hi U U U (λ_ _ _=>rfl) (λa b a0 ab b1=>yA hs a0 ab U) (λa c a0 a1 c0 c1=>yA hs a0 U c1) (λa a0 a1=>fS a0 U) (λc c0 c1=>?_)
   by_cases z:c=i
   ·exact⟨i-1,by omega,by omega,by rw[z,q]⟩
   ·exact⟨c,c0,by omega,J⟩
  ·rw[wi U U];exact ih k (i+1) U U U
theorem aaR {R:aX->aX->Prop} (s:List aX) (hs:s.Pairwise R) (hb:s.length<=1000000):Ok (jT.f s) (λr=>r.length<=s.length/\(∀e,e∈r↔e∈s)/\r.Pairwise R):=by
 unfold jT.f;exact Ok.ite (λ_=>Ok.pure ⟨jW _,λ_=>Iff.rfl,hs⟩) λ_=>aaS s hs hb s.length fuel 1 U (by rw[de];omega) U
def AY (x y:Int):Int:=if x<y then-1 else if x>y then 1 else 0
theorem aaP (x y:Int):tN.f x y=some (AY x y):=by
 unfold tN.f cmp_isNaN_int.f AY;simp only[aM,bne_self_eq_false,jk,if_false];split
 ·rfl
 ·split<;>rfl
theorem agu (a b c:Int):nn.f [a,b,c]=some (if a≠0 then a else if b≠0 then b else c):=by
 unfold nn.f;obtain⟨k,hk⟩: ∃q,fuel=q+1+1+1+1:=⟨fuel-4,by rw[de]⟩
 have w1:af (0+1)=1:=rfl;have w2:af (1+1)=2:=rfl;have w3:af (2+1)=3:=rfl;have e0:rd [a,b,c] 0=a:=rfl;have e1:rd [a,b,c] 1=b:=rfl;have e2:rd [a,b,c] 2=c:=rfl;have l3:(aa [a,b,c]:Int)=3:=rfl;rw[hk];simp only[nn.l0,l3,w1,w2,w3,e0,e1,e2]
 by_cases ha:a=0
 ·by_cases hb:b=0
  ·by_cases hc:c=0<;>simp[ha,hb,hc]
  ·simp[ha,hb]
 ·simp[ha]
def vz (a b:aX):Int:=if AY a.Key b.Key≠0 then AY a.Key b.Key else if AY a.Cell b.Cell≠0 then AY a.Cell b.Cell else AY a.cK b.cK
theorem agv (a b:aX):p7.f a b=some (vz a b):=by
 unfold p7.f;simp only[aaP,agu,aM];rfl
def ur (a b:aX):Prop:=a.Key<b.Key∨a.Key=b.Key/\(a.Cell<b.Cell∨a.Cell=b.Cell/\a.cK<b.cK)
theorem Lh (a b:aX):ltOf vz a b=true↔ur a b:=by
 unfold ltOf vz ur AY;rw[decide_eq_true_iff]
 repeat' split
 all_goals omega
theorem swo:Go.Sort.SWO (ltOf vz):=by
 refine⟨λx=>?_,λx y z h1 h2=>?_,λx y z h1 h2=>?_⟩
 ·rw[<-Bool.not_eq_true,Lh];unfold ur;omega
 ·rw[Lh] at*;unfold ur at*;omega
 ·rw[<-Bool.not_eq_true,Lh] at*;unfold ur at*;omega
theorem PK (l:List aX) (hb:l.length<=1000000):Ok (nz.f l) (λr=>r.length<=l.length/\(∀e,e∈r↔e∈l)/\r.Pairwise (λa b=> ¬ur b a)):=by
 unfold nz.f sZ.f BA.f;have e:(λa b=>Option.getD (p7.f a b) 0)=vz:=by funext a b;rw[agv];rfl
 have hlen:=Ib swo l;obtain⟨⟨p1,p2,p3⟩,hs⟩:=W7 swo l;have hp: ∀x,x∈qa vz l↔x∈l:=λx=>by
  have h1:(qa vz l).toArray.extract 0 l.length=(qa vz l).toArray:=by rw[<-hlen];simp
  have h2:l.toArray.extract 0 l.length=l.toArray:=by simp
  rw[h1,h2] at p3;exact p3.mem_iff
 have hpw:(qa vz l).Pairwise (λa b=> ¬ur b a):=Wy λi j i0 ij j1=>by
  have:=hs i.toNat j.toNat U U U;rw[<-Lh];have g: ∀c:Int,0<=c->c<(qa vz l).length->(qa vz l).toArray[c.toNat]! =rd (qa vz l) c:=λc c0 c1=>by
   rw[iU U];simp;rw[List.getElem?_eq_getElem U];rfl
  rw[g i i0 U,g j U U] at this;simp[this]
 refine Ok.eq (ah bo) ?_;simp only[List.nil_append,e];refine Ok.eq (ah U) ((aaR _ hpw U).bind λr hr=>Ok.pure ⟨by omega,λx=>(hr.2.1 x).trans (hp x),hr.2.2⟩)
def HW (t:aG) (c side:Int):Prop:=side=4∨(0<=side/\side<=3/\vy t.W t.H c side)
def rh (t:aG) (s:aX):Prop:=0<=s.Cell/\s.Cell<t.C.length/\rd t.C s.Cell≠255/\0<=s.Key/\s.Key<=1073741824/\HW t s.Cell s.cK
theorem agw {t:aG} (h:mF t) {c side:Int} (c0:0<=c) (c1:c<t.C.length):Ok (Dx.f t c side) (λb=>b=true↔HW t c side):=by
 unfold Dx.f HW vy;obtain⟨a,b,d,e,f,_⟩:=h.1;have hl:=oB h.1;have hq:0<=c/t.W/\c/t.W<=c:=⟨Int.ediv_nonneg c0 U,Int.ediv_le_self _ c0⟩;rw[mY c0,qe c0,wi (x:=c/t.W) U U,wi (x:=t.W-1) U U,wi (x:=t.H-1) U U];refine Ok.br U (Ok.br U (Ok.ite (λz=>Ok.pure ?_) λz=>Ok.ite (λz=>Ok.pure ?_) λz=>Ok.ite (λz=>Ok.pure ?_) λz=>Ok.ite (λz=>Ok.pure ?_) λz=>Ok.pure ?_))
 all_goals simp only[beq_iff_eq] at*
 ·subst z;simp
 ·subst z;simp
 ·subst z;simp
 ·subst z;simp
 ·constructor
  ·exact .inl
  ·rintro(q |q)
   ·exact q
   ·omega
theorem afD {t:aG} (h:mF t) (s:aX):Ok (Dw.f s t) (λb=>b=true↔ ¬rh t s):=by
 unfold Dw.f rh;refine(?_:Ok _ (λb:Bool=>b=true↔ ¬rh t s)).bind λr hr=>Ok.pure hr
 unfold rh;refine Ok.ite (λz=>Ok.pure ?_) λz1=>Ok.ite (λz=>Ok.pure ?_) λz2=>Ok.br U (Ok.ite (λz=>Ok.pure ?_) λz3=>Ok.ite (λz=>Ok.pure ?_) λz4=>Ok.ite (λz=>Ok.pure ?_) λz5=>?_)
 ·simp;omega
 ·simp;omega
 ·have z:rd t.C s.Cell=255:=by simpa using z
  simp[z]
 ·simp;omega
 ·simp;omega
 ·refine(agw h U U).bind λr hr=>Ok.pure ?_
  have z3:rd t.C s.Cell≠255:=by simpa using z3
  cases r
  ·have: ¬HW t s.Cell s.cK:=λq=>by have:=hr.2 q;simp at this
   simp[this]
  ·have:HW t s.Cell s.cK:=hr.1 J;simp only[Bool.not_true,jk,false_iff,Classical.not_not];exact⟨by omega,by omega,z3,by omega,by omega,this⟩
theorem aeD {t:aG} (h:mF t) (l:List aX) (hb:l.length<=1000000): ∀(n k:Nat) (i:Int),(l.length-i).toNat<=n->n<k->0<=i->(∀j:Int,0<=j->j<i->rh t (rd l j))->
 Ok (rM.l0 k l t i) (λr=>0<=r↔ ¬ ∀s∈l,rh t s):=by
 intro n
 induction n with
 |zero=>
  intro k i hn hk hi ha;obtain⟨k,rfl⟩:=bw hk;rw[rM.l0,ak U];refine Ok.pure ⟨λq=>by omega,λq=>absurd (λs hs=>?_) q⟩
  obtain⟨j,j0,j1,rfl⟩:=qD hs;exact ha j j0 U
 |succ n ih=>
  intro k i hn hk hi ha
  by_cases aS:i<l.length
  ·obtain⟨k,rfl⟩:=bw hk;rw[rM.l0];refine Ok.pos aS (Ok.br ⟨hi,aS⟩ ((afD h (rd l i)).bind λb kt=>Ok.ite (λq=>Ok.pure ⟨λ_ y=>kt.1 q (y _ (fS hi aS)),λ_=>hi⟩) λq=>?_));rw[wi U U];refine ih k (i+1) U U U (λj j0 j1=>?_)
   by_cases z:j=i
   ·rw[z];exact pr λy=>q (kt.2 y)
   ·exact ha j j0 U
  ·exact ih k i U U hi ha
theorem W6 {t:aG} (h:mF t) (l:List aX) (hb:l.length<=1000000):Ok (Ak.f t l) (λb=>b=true↔ ∀s∈l,rh t s):=by
 have hl:=oB h.1;unfold Ak.f E6.f rM.f;rw[Lp _ U,decide_eq_true h.1];refine Ok.eq J (Ok.neg bp (((aeD h l hb l.length fuel 0 U (by rw[de];omega) U (λj j0 j1=>by omega)).bind λr hr=>Ok.pure (P:=λb=>b=true↔ ¬ ∀s∈l,rh t s) (by simp only[decide_eq_true_iff];exact hr)).bind λr hr=>Ok.pure ?_))
 cases r
 ·simp only[Bool.not_false,true_iff];exact pr λy=>by have:=hr.2 y;simp at this
 ·simp only[Bool.not_true,jk,false_iff];exact hr.1 J
theorem ah1 (a b:List aX) (hl:a.length=b.length) (hb:a.length<=1000000): ∀(n k:Nat) (i:Int),(a.length-i).toNat<=n->n<k->0<=i->(∀j:Int,0<=j->j<i->rd a j=rd b j)->
 rL.l0 k a b i=some (decide (a=b)):=by
 intro n
 induction n with
 |zero=>
  intro k i hn hk hi ha;obtain⟨k,rfl⟩:=bw hk;rw[rL.l0,ak U,decide_eq_true (yB hl λj j0 j1=>ha j j0 U)]
 |succ n ih=>
  intro k i hn hk hi ha
  by_cases aS:i<a.length
  ·obtain⟨k,rfl⟩:=bw hk;rw[rL.l0,ah aS,ah ⟨hi,aS⟩,ah U,PB]
   by_cases q:rd a i=rd b i
   ·rw[ak (by simp[q]),wi U U]
    refine ih k (i+1) U U U (λj j0 j1=>?_)
    by_cases z:j=i
    ·rw[z];exact q
    ·exact ha j j0 U
   ·rw[ah (by simp[q]),decide_eq_false (λy=>q (by rw[y]))]
  ·exact ih k i U U hi ha
theorem ail (a b:List aX) (hb:a.length<=1000000):Bw.f a b=some (decide (a=b)):=by
 unfold Bw.f rL.f
 by_cases hl:a.length=b.length
 ·rw[ak (by simp[hl]),ah1 a b hl hb a.length fuel 0 U (by rw[de];omega) U (λj j0 j1=>by omega)];rfl
 ·rw[ah bo,decide_eq_false (λy=>hl (by rw[y]))];rfl
theorem Z' (l:List aX) (c side:Int) (hb:l.length<=1000000): ∀(n k:Nat) (x:Int) (b:Bool) (i:Int),(l.length-i).toNat<=n->n<k->0<=i->
 ∃r,lb.l0 k l c side x b i=some r:=by
 intro n
 induction n with
 |zero=>
  intro k x b i hn hk hi;obtain⟨k,rfl⟩:=bw hk;exact⟨x,by rw[lb.l0,ak U]⟩
 |succ n ih=>
  intro k x b i hn hk hi
  by_cases aS:i<l.length
  ·obtain⟨k,rfl⟩:=bw hk;rw[lb.l0,ah aS,ah ⟨hi,aS⟩,wi U U];have: ∃q,(if((rd l i).Cell==c)=true then(if((rd l i).cK==side)=true then(if(!b)=true then(some true) else(some (decide ((rd l i).Key<x)))) else(some false)) else(some false))=some q:=by
    repeat' split
    all_goals exact⟨_,J⟩
   obtain⟨q,hq⟩:=this;rw[hq,aM];split
   ·exact ih k _ _ (i+1) U U U
   ·exact ih k _ _ (i+1) U U U
  ·exact ih k x b i U U hi
theorem Z_ (l:List aX) (c side:Int) (hb:l.length<=1000000): ∃r,lb.f l c side=some r:=
 Z' l c side hb l.length fuel _ _ 0 U (by rw[de];omega) U
def kX (b:ka):List Int:=b.items.drop b.gone.toNat
def kF:List ka->Int
 |[]=>0
 |b::l=>(kX b).length+kF l
theorem PY: ∀l,0<=kF l
 |[]=>dU _
 |b::l=>by have:=PY l;unfold kF;omega
theorem Xp: ∀(l:List ka) (j:Nat) (b:ka),j<l.length->kF (l.set j b)=kF l-(kX (rd l (j:Int))).length+(kX b).length
 |[],j,b,h=>by simp at h
 |a::l,0,b,_=>by simp[kF,rd];omega
 |a::l,j+1,b,h=>by
  have:=Xp l j b (by simpa using h)
  have e:rd (a::l) ((j+1:Nat):Int)=rd l (j:Int):=by unfold rd;simp
  simp only[List.set_cons_succ,kF];rw[this,e];omega
theorem Xm: ∀(l:List ka) (j:Nat),j<l.length->((kX (rd l (j:Int))).length:Int)<=kF l
 |a::l,0,_=>by have:=PY l;simp[kF,rd];omega
 |a::l,j+1,h=>by
  have:=Xm l j (by simpa using h)
  have e:rd (a::l) ((j+1:Nat):Int)=rd l (j:Int):=by unfold rd;simp
  simp only[kF];rw[e];omega
theorem Xo: ∀(l:List ka),0<kF l-> ∃j:Nat,j<l.length/\kX (rd l (j:Int))≠[]
 |[],h=>by simp[kF] at h
 |a::l,h=>by
  by_cases z:kX a=[]
  ·obtain⟨j,h1,h2⟩:=Xo l (by simp[kF,z] at h;exact h)
   exact⟨j+1,by simpa using h1,by have e:rd (a::l) ((j+1:Nat):Int)=rd l (j:Int):=by unfold rd;simp
                                  rw[e];exact h2⟩
  ·exact⟨0,by simp,by simpa[rd] using z⟩
theorem Xn {n:Nat}: ∀(l:List ka),(∀b∈l,b.items.length<=n)->kF l<=l.length*n
 |[],_=>by simp[kF]
 |b::l,h=>by
  have:=Xn l (λb hb=>h b (oH _ hb));have hb:=h b (mD ..);have:(kX b).length<=b.items.length:=by unfold kX;simp
  rw[kF,tz,Int.natCast_add,Int.add_mul,Int.natCast_one,Int.one_mul];omega
structure iM (r:eX) (n:Nat):Prop where
 len_:r.buckets.length=256
 at_:0<=r.aZ/\r.aZ<=8796093022208
 gone: ∀b∈r.buckets,0<=b.gone/\b.gone<=b.items.length/\b.items.length<=n
 BL:r.len=kF r.buckets
 n_:n<=1000000000
def Has (r:eX) (k i:Int):Prop:=r.aZ<=k/\k<r.aZ+256/\i∈kX (rd r.buckets (k%256))
variable {r : eX} {n : Nat}
theorem iM.CT (h:iM r n):0<=r.len/\r.len<=256000000000:=by
 have h1:=PY r.buckets;have h2:=Xn r.buckets (λb hb=>(h.gone b hb).2.2);have:=h.n_;rw[h.len_] at h2;rw[h.BL];omega
theorem iM.none (h:iM r n) (h0:r.len=0) (k i:Int): ¬Has r k i:=by
 rintro⟨h1,h2,h3⟩;have:=Xm r.buckets (k%256).toNat (by rw[h.len_];omega)
 rw[<-h.BL,h0,show(((k%256).toNat:Nat):Int)=k%256 by omega] at this
 have:=List.length_pos_iff.2 (List.ne_nil_of_mem h3);omega
theorem iM.some (h:iM r n) (h0:r.len≠0): ∃k i,Has r k i:=by
 have:=h.CT;obtain⟨j,j1,j2⟩:=Xo r.buckets (by rw[<-h.BL];omega)
 obtain⟨i,hi⟩:=List.exists_mem_of_ne_nil _ j2;rw[h.len_] at j1;have ha:=h.at_;refine⟨r.aZ+(j-r.aZ%256)%256,i,by omega,by omega,?_⟩
 rw[show(r.aZ+(j-r.aZ%256)%256)%256=(j:Int) by omega];exact hi
theorem aho: ∃r,wT.f 0=some (some r)/\r.aZ=0/\iM r 0/\ ∀k i,¬Has r k i:=by
 refine⟨_,J,J,⟨List.length_replicate ..,⟨dU _,by decide⟩,λb hb=>?_,?_,by omega⟩,λk i=>?_⟩
 ·rw[List.mem_replicate] at hb;rw[hb.2];exact⟨dU _,dU _,jW _⟩
 ·have: ∀n,kF (cy n (default:ka))=0:=λn=>by
   induction n with
   |zero=>rfl
   |succ n ih=>rw[List.replicate_succ,kF,ih];rfl
  rw[this]
 ·rintro⟨_,_,h3⟩;rw[wM U U] at h3;have:kX (default:ka)=[]:=rfl;rw[this] at h3;simp at h3
theorem WD {b:ka} {j:Int} {l:Int} (h:iM r n) {n':Nat} (hn:n<=n') (GL:n'<=1000000000) (j0:0<=j) (j1:j<256) (hb:0<=b.gone/\b.gone<=b.items.length/\b.items.length<=n') {a:Int} (ha:0<=a/\a<=8796093022208)
 (hl:l=r.len-(kX (rd r.buckets j)).length+(kX b).length):iM ⟨a,l,aD r.buckets j.toNat b⟩ n':=by
 refine⟨by simp[h.len_],ha,λc hc=>?_,?_,GL⟩
 ·rcases List.mem_or_eq_of_mem_set hc with z |rfl
  ·have:=h.gone c z;omega
  ·exact hb
 ·simp only;rw[Xp _ _ _ (by rw[h.len_];omega),hl,h.BL,show((j.toNat:Nat):Int)=j by omega]
theorem WG (h:iM r n) (hn:n<1000000000) {key:Int} (k1:key<=8796093022208) (k0:0<=key) (i:Int):
 Ok (uj.f r key i) (λx=>x.2.aZ=r.aZ/\iM x.2 (n+1)/\((x.1=true/\r.aZ<=key/\key<r.aZ+256/\x.2.len=r.len+1/\ ∀k j,Has x.2 k j↔Has r k j∨(k=key/\j=i))∨(x.1=false/\(key<r.aZ∨r.aZ+256<=key)/\x.2=r))):=by
 have ha:=h.at_;have hl:=h.CT;unfold uj.f;have e:(if key<r.aZ then some true else some (decide (af (key-r.aZ)≥256)))=some (decide (key<r.aZ∨r.aZ+256<=key)):=by
  rw[wi U U]
  by_cases z:key<r.aZ
  ·simp[z]
  ·simp only[z,if_false,false_or];congr 2;rw[eq_iff_iff];constructor<;>intro<;>omega
 have hs:iM r (n+1):=⟨h.len_,h.at_,λb hb=>by have:=h.gone b hb;omega,h.BL,by omega⟩
 refine Ok.eq e (Ok.ite (λz=>Ok.pure ⟨J,hs,.inr ⟨J,of_decide_eq_true z,J⟩⟩) λz=>?_);have z: ¬(key<r.aZ∨r.aZ+256<=key):=by simpa using z
 rw[mY k0];have hb:=h.gone (rd r.buckets (key%256)) (fS U (by rw[h.len_];omega))
 refine Ok.br (by rw[h.len_];omega) ?_
 unfold Ad.f;rw[ah U];have hp:kX ⟨(rd r.buckets (key%256)).items++[i],(rd r.buckets (key%256)).gone⟩=kX (rd r.buckets (key%256))++[i]:=by
  unfold kX;simp only;rw[List.drop_append_of_le_length U]
 refine Ok.pure ⟨J,WD (b:=⟨(rd r.buckets (key%256)).items++[i],(rd r.buckets (key%256)).gone⟩) h (Nat.le_succ n) U U U ⟨hb.1,by simp;omega,by simp;omega⟩ ha ?_,.inl ⟨J,by omega,by omega,?_,λk j=>?_⟩⟩
 ·rw[wi U U,hp];simp;omega
 ·simp only;rw[wi U U]
 ·unfold Has;simp only;rw[mr U (by rw[h.len_];omega) U]
  by_cases y:k%256=key%256
  ·rw[ah y,hp,y];constructor
   ·rintro⟨a,b,c⟩;rcases List.mem_append.1 c with c |c
    ·exact .inl ⟨a,b,c⟩
    ·exact .inr ⟨by omega,by simpa using c⟩
   ·rintro(⟨a,b,c⟩ |⟨rfl,rfl⟩)
    ·exact⟨a,b,List.mem_append_left _ c⟩
    ·exact⟨by omega,by omega,by simp⟩
  ·rw[ak y];constructor
   ·exact .inl
   ·rintro(q |⟨rfl,_⟩)
    ·exact q
    ·exact absurd J y
theorem agC: ∀(m k:Nat) (r:eX) (x y:Int),(x-r.aZ).toNat<=m->m<k->iM r n->x<=8796093022208->Has r x y->
 Ok (pd.l0 k r) (λq=>iM q n/\q.buckets=r.buckets/\q.len=r.len/\r.aZ<=q.aZ/\kX (rd q.buckets (q.aZ%256))≠[]/\ ∀a b,Has q a b↔Has r a b):=by
 intro m
 induction m with
 |zero=>
  intro k r x y hm hk h hx hy;obtain⟨k,rfl⟩:=bw hk;have ha:=h.at_;have sJ:x=r.aZ:=by have:=hy.1;omega
  subst sJ;rw[pd.l0,mY ha.1];unfold yF.f;have bK:=List.ne_nil_of_mem hy.2.2;refine Ok.br (by rw[h.len_];omega) (Ok.neg ?_ (Ok.pure ⟨h,J,J,by omega,bK,λ_ _=>Iff.rfl⟩))
  intro z;have z:(rd r.buckets (r.aZ%256)).gone=(rd r.buckets (r.aZ%256)).items.length:=by simpa using z
  exact bK (by unfold kX;rw[z];simp)
 |succ m ih=>
  intro k r x y hm hk h hx hy;obtain⟨k,rfl⟩:=bw hk;have ha:=h.at_;rw[pd.l0,mY ha.1];unfold yF.f;have ve:=h.gone (rd r.buckets (r.aZ%256)) (fS U (by rw[h.len_];omega))
  refine Ok.br (by rw[h.len_];omega) (Ok.ite (λz=>?_) λz=>Ok.pure ⟨h,J,J,by omega,λq=>?_,λ_ _=>Iff.rfl⟩)
  ·have z:(rd r.buckets (r.aZ%256)).gone=(rd r.buckets (r.aZ%256)).items.length:=by simpa using z
   have hp:kX (rd r.buckets (r.aZ%256))=[]:=by unfold kX;rw[z];simp
   have bK:x≠r.aZ:=by rintro rfl;have:=hy.2.2;rw[hp] at this;simp at this
   have:=hy.1;rw[wi U U];have hh: ∀a b,Has ⟨r.aZ+1,r.len,r.buckets⟩ a b↔Has r a b:=λa b=>by
    unfold Has;simp only;constructor
    ·rintro⟨q1,q2,q3⟩;refine⟨by omega,?_,q3⟩
     apply pr;intro q;have:a%256=r.aZ%256:=U;rw[this,hp] at q3;simp at q3
    ·rintro⟨q1,q2,q3⟩;refine⟨?_,by omega,q3⟩
     apply pr;intro q;have:a=r.aZ:=U;rw[this,hp] at q3;simp at q3
   refine(ih k ⟨r.aZ+1,r.len,r.buckets⟩ x y (by simp only;omega) U ⟨h.len_,by simp only;omega,h.gone,h.BL,h.n_⟩ hx ((hh x y).2 hy)).mono λq hq=>⟨hq.1,hq.2.1,hq.2.2.1,by have:=hq.2.2.2.1;simp only at this;omega,hq.2.2.2.2.1,λa b=>(hq.2.2.2.2.2 a b).trans (hh a b)⟩
  ·unfold kX at q;rw[List.drop_eq_nil_iff] at q;exact z bo
theorem ahu (h:iM r n) {x y:Int} (hx:x<=8796093022208) (hy:Has r x y):
 Ok (pd.f r) (λq=>q.2.2.1=true/\iM q.2.2.2 n/\q.2.2.2.aZ=q.1/\q.2.2.2.len=r.len-1/\Has r q.1 q.2.1/\(∀a b,Has r a b->q.1<=a)/\(∀a b,Has q.2.2.2 a b->Has r a b)/\ ∀a b,Has r a b->(a=q.1/\b=q.2.1)∨Has q.2.2.2 a b):=by
 unfold pd.f wU.f;have hl:=h.CT;have xW:r.len≠0:=λz=>h.none z x y hy
 refine Ok.eq J (Ok.neg (by simpa using xW) ((agC (x-r.aZ).toNat fuel r x y U (by rw[de];have:=h.at_;omega) h hx hy).bind λq hq=>?_))
 obtain⟨h1,h2,h3,h4,h5,h6⟩:=hq;have ha:=h1.at_;rw[mY ha.1];have hb:=h1.gone (rd q.buckets (q.aZ%256)) (fS U (by rw[h1.len_];omega))
 refine Ok.br (by rw[h1.len_];omega) ?_
 generalize hB:rd q.buckets (q.aZ%256)=B at hb h5;have hg:B.gone<B.items.length:=by
  apply pr;intro z;exact h5 (by unfold kX;rw[List.drop_eq_nil_iff];omega)
 have Kl:kX B=rd B.items B.gone::B.items.drop (B.gone+1).toNat:=by unfold kX;rw[F8 hb.1 hg]
 have hn:=h1.n_;have aex: ∃B',sW.f B=some (rd B.items B.gone,B')/\kX B'=B.items.drop (B.gone+1).toNat/\0<=B'.gone/\B'.gone<=B'.items.length/\B'.items.length<=n:=by
  unfold sW.f yF.f;rw[ah ⟨hb.1,hg⟩,wi U U];simp only[aM]
  by_cases z:B.gone+1=B.items.length
  ·rw[ah (by simpa using z),ah U]
   exact⟨_,J,by unfold kX aA;simp;omega,dU _,by simp,by simp[aA]⟩
  ·rw[ak (by simpa using z)]
   exact⟨_,J,J,by simp only;omega,by simp only;omega,hb.2.2⟩
 obtain⟨B',e1,e2,e3⟩:=aex;have hR:iM ⟨q.aZ,af (q.len-1),aD q.buckets (ax (q.aZ%256)) B'⟩ n:=by
  refine WD h1 (jW _) hn U U e3 ha ?_;rw[wi U U,hB,Kl,e2];simp;omega
 have abP:Has r q.aZ (rd B.items B.gone):=(h6 _ _).1 ⟨by omega,by omega,by rw[hB,Kl];simp⟩
 have ei: ∀a:Int,rd (aD q.buckets (ax (q.aZ%256)) B') (a%256)=if a%256=q.aZ%256 then B' else rd q.buckets (a%256):=λa=>mr U (by rw[h1.len_];omega) U
 refine Ok.eq e1 (Ok.pure ⟨J,hR,J,by simp only;rw[wi U U,h3],abP,λa b wj=>((h6 a b).2 wj).1,λa b wj=>?_,λa b wj=>?_⟩)
 ·obtain⟨q1,q2,q3⟩:=wj;simp only at q1 q2 q3;rw[ei] at q3;refine(h6 a b).1 ⟨q1,q2,?_⟩;split at q3
  ·rename_i z;rw[z,hB,Kl];rw[e2] at q3;exact oH _ q3
  ·exact q3
 ·obtain⟨q1,q2,q3⟩:=(h6 a b).2 wj
  by_cases z:a%256=q.aZ%256
  ·have:a=q.aZ:=U;subst this;rw[hB,Kl] at q3;rcases List.mem_cons.1 q3 with y |y
   ·exact .inl ⟨J,y⟩
   ·exact .inr ⟨q1,q2,by simp only;rw[ei,ah J,e2];exact y⟩
  ·exact .inr ⟨q1,q2,by simp only;rw[ei,ak z];exact q3⟩
theorem aeY (h:iM r n) {key:Int} (k0:0<=key) (k1:key<=1099511627776) (h0:r.len=0):
 Ok (yE.f r key) (λx=>iM x.2 n/\x.2.len=0/\x.2.aZ=if key<r.aZ then r.aZ else key):=by
 unfold yE.f;rw[ak U];refine Ok.eq J (Ok.ite (λz=>Ok.pure ⟨h,h0,?_⟩) λz=>Ok.pure ⟨⟨h.len_,by simp only;omega,h.gone,h.BL,h.n_⟩,h0,?_⟩)
 ·simp at z;rw[ah U]
 ·simp at z;rw[ak U]
theorem L8 {n:Int} (h0:0<=n) (h1:n<4294967296):((gf (cj (IntKind.bits .u64) n&&&cj (IntKind.bits .u64) 4294967295):Nat):Int)=n:=by
 obtain⟨k,rfl⟩: ∃k:Nat,n=(k:Int):=⟨n.toNat,by omega⟩
 have e1:(cj (IntKind.bits .u64) (k:Int)).toNat=k:=by
  show(cj 64 (k:Int)).toNat=k
  rw[BitVec.toNat_ofInt];omega
 have e2:(cj (IntKind.bits .u64) 4294967295).toNat=2^32-1:=by rfl
 rw[BitVec.toNat_and,e1,e2,Nat.and_two_pow_sub_one_eq_mod];omega
theorem rT {x:Int} (h1:0<=x) (h2:x<=18446744073709551615):eZ x=x:=by
 unfold eZ IntKind.wrap IntKind.signed IntKind.bits;simp;omega
theorem afV {n:Int} (h0:0<=n) (h1:n<4294967296):uc.f 1 n=some (0,n):=by
 unfold uc.f CW.f;have a1:fQ 1 (2^32)=0:=by rfl
 have a2:fQ n (2^32)=0:=by rw[Int.fdiv_eq_ediv_of_nonneg _ U];omega
 have a3:((gf (cj (IntKind.bits .u64) 1&&&cj (IntKind.bits .u64) 4294967295):Nat):Int)=1:=L8 U U;have a4:=L8 h0 h1;have w0:eZ 0=0:=rT U U;have w1:eZ 1=1:=rT U U;have wn:eZ n=n:=rT h0 U;have a5:((gf (cj (IntKind.bits .u64) 0&&&cj (IntKind.bits .u64) 4294967295):Nat):Int)=0:=L8 U U;have f0:fQ 0 (2^32)=0:=by rfl
 simp only[a1,a2,a3,a4,Int.zero_mul,Int.mul_zero,Int.one_mul,w0,w1,wn,Int.zero_add,a2,a5,f0,aM]
theorem ahk {v:Int}: ∀(n k:Nat) (x:List Int) (i:Int),i+n≥x.length->1<=i->(x.length:Int)<=1000000000->n<k->(∀j:Int,0<=j->j<i->j<x.length->rd x j=v)->
 kD.l0 k x i=some (cy x.length v):=by
 intro n
 induction n with
 |zero=>
  intro k x i hi h1 hb hk hx;obtain⟨k,rfl⟩:=bw hk;rw[kD.l0,ak U]
  congr 1
  apply yB bp;intro j j0 j1;rw[hx j j0 U j1,wM j0 U]
 |succ n ih=>
  intro k x i hi h1 hb hk hx;obtain⟨k,rfl⟩:=bw hk
  by_cases hq:i<x.length
  ·have s1:(aA x 0 i).length=i.toNat:=by rw[iV U];omega
   have s2:(aA x i (x.length:Int)).length=(x.length-i.toNat):=by rw[iV U];omega
   rw[kD.l0,ah hq,ah U,ah U,s1,s2];have hlen:(cB x i.toNat (min i.toNat (x.length-i.toNat)) (aA x 0 i)).length=x.length:=A1 U (by rw[s1];omega)
   rw[bd U U];have:=ih k (cB x i.toNat (min i.toNat (x.length-i.toNat)) (aA x 0 i)) (i+((min i.toNat (x.length-i.toNat):Nat):Int)) (by rw[hlen];omega) U (by rw[hlen];omega) U (λj j0 j1 j2=>?_)
   ·rw[this,hlen]
   ·rw[hlen] at j2;unfold cB
    by_cases wz:j<i
    ·rw[vw j0 (by rw[List.length_take];omega)]
     have:rd (x.take i.toNat) j=rd x j:=by
      unfold rd;simp[List.getD,List.getElem?_take,show j.toNat<i.toNat by omega]
     rw[this];exact hx j j0 wz U
    ·rw[og (by rw[List.length_take];omega),List.length_take,show((min i.toNat x.length:Nat):Int)=i by omega]
     rw[vw U (by rw[List.length_take,s1];omega)]
     have:rd ((aA x 0 i).take (min i.toNat (x.length-i.toNat))) (j-i)=rd x (j-i):=by
      unfold rd aA;simp[List.getD,List.getElem?_take,show(j-i).toNat<i.toNat by omega,show(j-i).toNat<x.length-i.toNat by omega]
      rw[ah U]
     rw[this];exact hx (j-i) U U U
  ·rw[kD.l0,ak hq]
   congr 1
   apply yB bp;intro j j0 j1;rw[hx j j0 U j1,wM j0 U]
theorem WB {v:Int} {n:Nat} (h0:1<=n) (h1:n<=1000000000):kD.f [v] (n:Int)=some (cy n v):=by
 unfold kD.f;have e1:eZ (([v]:List Int).length:Int)=1:=by rw[show(([v]:List Int).length:Int)=1 from rfl];exact rT U U
 rw[ak U,e1,rT (x:=(n:Int)) U U,afV U U,aM];simp only;rw[ak bo,bd U U,ah U,Int.toNat_natCast];have e2:min ([v]:List Int).length (cy n (0:Int)).length=1:=by rw[List.length_replicate];simp;omega
 rw[e2];have e3:cB (cy n (0:Int)) 0 1 [v]=v::cy (n-1) 0:=by
  unfold cB;simp
 have hl:(v::cy (n-1) (0:Int)).length=n:=by simp;omega
 rw[e3,ahk (v:=v) n fuel _ ((1:Nat):Int) U U U (by rw[de];omega) (λj j0 j1 _=>by
  rw[show j=0 by omega];rfl),hl]
 rfl
theorem ahj: ∀(k:Nat) (x:List Int) (i:Int),p_.l0 k x i=kD.l0 k x i:=by
 intro k
 induction k with
 |zero=>intros;rfl
 |succ k ih=>intro x i;rw[p_.l0,kD.l0];simp only[ih]
theorem ahl {v:Int} {n:Nat} (h0:1<=n) (h1:n<=1000000000):p_.f [v] (n:Int)=some (cy n v):=by
 rw[<-WB h0 h1];unfold p_.f kD.f;simp only[ahj]
def zj (w h c:Int):Nat->Int->Bool
 |0,_=>false
 |n+1,j=>decide (0<=fo w h c j)||zj w h c n (j+1)
def Bs (w h s l:Int):Bool:=zj w h (cA w h s l) 4 0
def vx (w h s:Int) (n:Nat):List Int:=((List.range n).filter (λl:Nat=>Bs w h s (l:Int))).map (λl:Nat=>cA w h s (l:Int))
def qK (w h s:Int):List Int:=vx w h s ((ay w h s).1*(ay w h s).2).toNat
theorem aaF (w h s:Int) (n:Nat):vx w h s (n+1)=if Bs w h s (n:Int)=true then vx w h s n++[cA w h s (n:Int)] else vx w h s n:=by
 unfold vx;rw[List.range_succ,List.filter_append,List.map_append]
 by_cases h:Bs w h s (n:Int)=true
 ·rw[ah h];simp[h]
 ·rw[ak h];simp[h]
theorem Rm (w h s:Int) (n:Nat):(vx w h s n).length<=n:=by
 unfold vx;rw[List.length_map];have:=List.length_filter_le (λl:Nat=>Bs w h s (l:Int)) (List.range n);simpa using this
theorem uD (w h s:Int):0<=(ay w h s).1*(ay w h s).2/\(ay w h s).1*(ay w h s).2<=256:=by
 have hz:=size_le w h s;have:(ay w h s).1*(ay w h s).2<=16*16:=kU hz.1 hz.2.2.1 hz.2.1 hz.2.2.2;exact⟨nu hz.1 hz.2.2.1,by omega⟩
theorem PI {w h s l:Int} (h0:0<=l) (h1:l<(ay w h s).1*(ay w h s).2):bC w h s:=by
 by_cases hs:bC w h s
 ·exact hs
 ·have:ay w h s=(0,0):=by unfold ay;rw[ak hs]
  rw[this] at h1;simp at h1;omega
def wY (tw th side i:Int):Int:=if side=2 then(th-1)*tw+i else if side=0 then i else if side=1 then tw-1+i*tw else i*tw
def qL (tw th side:Int):Int:=if side=2∨side=0 then tw else if side=1∨side=3 then th else 0
def qJ (tw th side:Int) (n:Nat):List Int:=(List.range n).map (λi:Nat=>wY tw th side (i:Int))
def sX (tw th side:Int):List Int:=qJ tw th side (qL tw th side).toNat
theorem I7 (tw th side:Int) (n:Nat):qJ tw th side (n+1)=qJ tw th side n++[wY tw th side (n:Int)]:=by
 unfold qJ;rw[List.range_succ,List.map_append];rfl
theorem FL (tw th side:Int) (n:Nat):(qJ tw th side n).length=n:=by simp[qJ]
theorem YE {tw th:Int} (side:Int) (t0:0<=tw) (t1:tw<=16) (u0:0<=th) (u1:th<=16):fx.f tw th side=some (sX tw th side):=by
 unfold fx.f sX;have hb: ∀i:Int,0<=i->i<=16->0<=i*tw/\i*tw<=256:=λi i0 i1=>⟨nu i0 t0,by have:=kU i0 t0 i1 t1;omega⟩
 by_cases h2:side=2
 ·subst h2;rw[ah (by rfl)]
  have NO: -16<=(th-1)*tw/\(th-1)*tw<=256:=by
   have:=hb th u0 u1;rw[Int.sub_mul,Int.one_mul];omega
  have key: ∀(n k:Nat) (i:Int),i+n=tw->0<=i->n<k->fx.l0 k tw th (qJ tw th 2 i.toNat) i=some (qJ tw th 2 tw.toNat):=by
   intro n
   induction n with
   |zero=>
    intro k i hi h0 hk;obtain⟨k,rfl⟩:=bw hk;rw[fx.l0,ak U];rw[show i=tw by omega]
   |succ n ih=>
    intro k i hi h0 hk;obtain⟨k,rfl⟩:=bw hk;rw[fx.l0,ah U,ah (by rw[FL];omega),bd (x:=th-1) U U,bd (x:=(th-1)*tw) U U,bd U U,bd U U]
    have:=ih k (i+1) U U U;rw[show(i+1).toNat=i.toNat+1 by omega,I7,show((i.toNat:Nat):Int)=i by omega] at this
    exact this
  exact key tw.toNat fuel 0 U U (by rw[de];omega)
 rw[ak (by simpa using h2)]
 by_cases h0:side=0
 ·subst h0;rw[ah (by rfl)]
  have key: ∀(n k:Nat) (i:Int),i+n=tw->0<=i->n<k->fx.l1 k tw (qJ tw th 0 i.toNat) i=some (qJ tw th 0 tw.toNat):=by
   intro n
   induction n with
   |zero=>
    intro k i hi h0 hk;obtain⟨k,rfl⟩:=bw hk;rw[fx.l1,ak U];rw[show i=tw by omega]
   |succ n ih=>
    intro k i hi h0 hk;obtain⟨k,rfl⟩:=bw hk;rw[fx.l1,ah U,ah (by rw[FL];omega),bd U U,bd U U,Int.zero_add]
    have:=ih k (i+1) U U U;rw[show(i+1).toNat=i.toNat+1 by omega,I7,show((i.toNat:Nat):Int)=i by omega] at this
    exact this
  exact key tw.toNat fuel 0 U U (by rw[de];omega)
 rw[ak (by simpa using h0)]
 by_cases h1:side=1
 ·subst h1;rw[ah (by rfl)]
  have key: ∀(n k:Nat) (i:Int),i+n=th->0<=i->n<k->fx.l2 k tw th (qJ tw th 1 i.toNat) i=some (qJ tw th 1 th.toNat):=by
   intro n
   induction n with
   |zero=>
    intro k i hi h0 hk;obtain⟨k,rfl⟩:=bw hk;rw[fx.l2,ak U];rw[show i=th by omega]
   |succ n ih=>
    intro k i hi h0 hk;obtain⟨k,rfl⟩:=bw hk;have:=hb i U U;rw[fx.l2,ah U,ah (by rw[FL];omega),bd (x:=tw-1) U U,bd (x:=i*tw) U U,bd U U,bd U U]
    have:=ih k (i+1) U U U;rw[show(i+1).toNat=i.toNat+1 by omega,I7,show((i.toNat:Nat):Int)=i by omega] at this
    exact this
  exact key th.toNat fuel 0 U U (by rw[de];omega)
 rw[ak (by simpa using h1)]
 by_cases h3:side=3
 ·subst h3;rw[ah (by rfl)]
  have key: ∀(n k:Nat) (i:Int),i+n=th->0<=i->n<k->fx.l3 k tw th (qJ tw th 3 i.toNat) i=some (qJ tw th 3 th.toNat):=by
   intro n
   induction n with
   |zero=>
    intro k i hi h0 hk;obtain⟨k,rfl⟩:=bw hk;rw[fx.l3,ak U];rw[show i=th by omega]
   |succ n ih=>
    intro k i hi h0 hk;obtain⟨k,rfl⟩:=bw hk;have:=hb i U U;rw[fx.l3,ah U,ah (by rw[FL];omega),bd (x:=i*tw) U U,Int.zero_add,bd U U,bd U U]
    have:=ih k (i+1) U U U;rw[show(i+1).toNat=i.toNat+1 by omega,I7,show((i.toNat:Nat):Int)=i by omega] at this
    exact this
  exact key th.toNat fuel 0 U U (by rw[de];omega)
 rw[ak (by simpa using h3)]
 have:qL tw th side=0:=by unfold qL;rw[ak U,ak U]
 rw[this];rfl
theorem agE {tw th side i:Int} (t0:1<=tw) (u0:1<=th) (i0:0<=i) (i1:i<qL tw th side):0<=wY tw th side i/\wY tw th side i<tw*th/\vy tw th (wY tw th side i) side:=by
 have hb: ∀j:Int,0<=j->j<=th-1->0<=j*tw/\j*tw+tw<=tw*th:=λj j0 j1=>⟨nu j0 U,by
  have:=BZ j1 (by omega:0<=tw)
  rw[Int.sub_mul,Int.one_mul,mC th] at this;omega⟩
 unfold qL at i1;unfold wY vy
 by_cases h2:side=2
 ·subst h2;rw[ah (Or.inl J)] at i1;simp only[if_true];have:=hb (th-1) U U;have q:=pR (y:=th-1) i0 i1;simp only[show ¬((2:Int)=0) by omega,show ¬((2:Int)=1) by omega,if_false]
  exact⟨by omega,by omega,q.2⟩
 by_cases h0:side=0
 ·subst h0;rw[ah (Or.inr J)] at i1;have:=hb 0 U U;simp only[if_true,show ¬((0:Int)=2) by omega,if_false]
  exact⟨i0,by omega,Int.ediv_eq_zero_of_lt i0 i1⟩
 by_cases h1:side=1
 ·subst h1;rw[ak U,ah (Or.inl J)] at i1;simp only[show ¬((1:Int)=2) by omega,show ¬((1:Int)=0) by omega,if_false,if_true]
  have:=hb i U U;have q:=pR (a:=tw) (x:=tw-1) (y:=i) U U;rw[Int.add_comm];exact⟨by omega,by omega,q.1⟩
 ·rw[ak U] at i1
  by_cases h3:side=3
  ·subst h3;rw[ah (Or.inr J)] at i1;have:=hb i U U;simp only[show ¬((3:Int)=2) by omega,show ¬((3:Int)=0) by omega,show ¬((3:Int)=1) by omega,if_false]
   exact⟨by omega,by omega,Int.mul_emod_left _ _⟩
  ·rw[ak U] at i1;omega
theorem afH {tw th side l:Int} (t0:1<=tw) (u0:1<=th) (s0:0<=side) (s3:side<=3):l∈sX tw th side↔0<=l/\l<tw*th/\vy tw th l side:=by
 constructor
 ·intro hm;unfold sX qJ at hm;obtain⟨i,hi,rfl⟩:=List.mem_map.mp hm;have rp:=List.mem_range.mp hi;exact agE t0 u0 U U
 ·rintro⟨l0,l1,lY⟩;have a1:0<=l%tw:=Int.emod_nonneg _ U;have a2:l%tw<tw:=AN _ U;have a3:0<=l/tw:=Int.ediv_nonneg l0 U;have a4:l/tw<th:=Int.ediv_lt_of_lt_mul U (by rw[mC];exact l1)
  have a5:=uQ l tw;rw[mC] at a5;have hc:side=0∨side=1∨side=2∨side=3:=U;have go: ∀i:Int,0<=i->i<qL tw th side->wY tw th side i=l->l∈sX tw th side:=λi i0 i1 e=>by
   unfold sX qJ;exact List.mem_map.mpr ⟨i.toNat,List.mem_range.mpr U,by rw[show((i.toNat:Nat):Int)=i by omega];exact e⟩
  unfold vy at lY;rcases hc with rfl |rfl |rfl |rfl
  ·simp only[if_true] at lY;exact go (l%tw) a1 a2 (by unfold wY;rw[lY] at a5;simp;omega)
  ·simp at lY;exact go (l/tw) a3 a4 (by unfold wY;rw[lY] at a5;simp;omega)
  ·simp at lY;exact go (l%tw) a1 a2 (by unfold wY;rw[lY] at a5;simp;omega)
  ·simp at lY;exact go (l/tw) a3 a4 (by unfold wY;rw[lY] at a5;simp;omega)
theorem aaJ (v:List Int) (hv:v.length<=1000) (N:Int) (b_: ∀y∈v,0<=y/\y<N): ∀(n k:Nat) (i:Int) (x:List Bool),i+n=v.length->0<=i->n<k->(x.length:Int)=N->
 ∃x',gV.l1 k v x i=some x'/\(x'.length:Int)=N/\ ∀l:Int,0<=l->l<N->rd x' l=(rd x l||decide (l∈v.drop i.toNat)):=by
 intro n
 induction n with
 |zero=>
  intro k i x hi h0 hk hx;obtain⟨k,rfl⟩:=bw hk;refine⟨x,by rw[gV.l1,ak U],hx,λl l0 l1=>?_⟩
  rw[DT U];simp
 |succ n ih=>
  intro k i x hi h0 hk hx;obtain⟨k,rfl⟩:=bw hk;have hy:=b_ _ (fS h0 (by omega:i<(v.length:Int)))
  obtain⟨x',e,hl,hr⟩:=ih k (i+1) (aD x (ax (rd v i)) true) U U U (by simpa using hx)
  refine⟨x',by rw[gV.l1,ah U,ah U,ah U,bd U U];exact e,hl,λl l0 l1=>?_⟩
  rw[hr l l0 l1,mr hy.1 U l0,F8 h0 U]
  by_cases hq:l=rd v i
  ·rw[ah hq,hq];simp
  ·rw[ak hq];simp[hq]
theorem aaK (w h s:Int) (x:List Bool) (hx:(x.length:Int)=(ay w h s).1*(ay w h s).2) (hr: ∀l:Int,0<=l->l<x.length->rd x l=Bs w h s l): ∀(n k:Nat) (i:Int),i+n=x.length->0<=i->n<k->
 gV.l2 k w h s x (vx w h s i.toNat) i=some (qK w h s):=by
 have hz:=uD w h s;intro n
 induction n with
 |zero=>
  intro k i hi h0 hk;obtain⟨k,rfl⟩:=bw hk;rw[gV.l2,ak U];unfold qK;rw[show i=(ay w h s).1*(ay w h s).2 by omega]
 |succ n ih=>
  intro k i hi h0 hk;obtain⟨k,rfl⟩:=bw hk;have hle:=Rm w h s i.toNat;have:=ih k (i+1) U U U;rw[show(i+1).toNat=i.toNat+1 by omega,aaF,show((i.toNat:Nat):Int)=i by omega] at this
  rw[gV.l2,ah U,ah U,hr i h0 U,bd U U]
  by_cases hb:Bs w h s i=true
  ·rw[ah hb] at this;rw[ah hb,JD,aM,ah U];exact this
  ·rw[ak hb] at this;rw[ak hb];exact this
theorem W2 {j:Int} (h0:0<=j) (h3:j<=3):rd ([rd ([0,1,2,3]:List Int) 0,rd ([0,1,2,3]:List Int) 1,rd ([0,1,2,3]:List Int) 2,rd ([0,1,2,3]:List Int) 3]:List Int) j=j:=by
 have:j=0∨j=1∨j=2∨j=3:=U;rcases this with rfl |rfl |rfl |rfl<;>rfl
theorem Qx (w h c:Int): ∀(n:Nat) (j:Int),zj w h c (n+1) j=(zj w h c n j||decide (0<=fo w h c (j+n))):=by
 intro n
 induction n with
 |zero=>intro j;simp[zj]
 |succ n ih=>
  intro j;rw[zj,ih (j+1),zj,Bool.or_assoc];rw[show j+1+(n:Int)=j+((n+1:Nat):Int) by omega]
theorem aaI (w h s:Int): ∀(n k:Nat) (j:Int) (x:List Bool),j+n=4->0<=j->n<k->(x.length:Int)=(ay w h s).1*(ay w h s).2->
 (∀l:Int,0<=l->l<x.length->rd x l=zj w h (cA w h s l) j.toNat 0)->
 gV.l0 k w h s (ay w h s) [0,1,2,3] x j=some (qK w h s):=by
 have hz:=uD w h s;have Be:=size_le w h s;intro n
 induction n with
 |zero=>
  intro k j x hj h0 hk hx hr;obtain⟨k,rfl⟩:=bw hk;rw[gV.l0,ak U];have e:j.toNat=4:=U;rw[e] at hr;exact aaK w h s x hx hr x.length fuel 0 U U (by rw[de];omega)
 |succ n ih=>
  intro k j x hj h0 hk hx hr;obtain⟨k,rfl⟩:=bw hk;rw[gV.l0,ah U,W2 h0 U,YE j Be.1 Be.2.1 Be.2.2.1 Be.2.2.2,ah bo,bd U U];rw[aM]
  by_cases hs:bC w h s
  ·have Kw:=p9 hs;have hlen:((sX (ay w h s).1 (ay w h s).2 j).length:Int)=qL (ay w h s).1 (ay w h s).2 j:=by
    unfold sX;rw[FL];unfold qL;split
    ·omega
    ·split<;>omega
   have hlp:1<=qL (ay w h s).1 (ay w h s).2 j/\qL (ay w h s).1 (ay w h s).2 j<=16:=by
    unfold qL;split
    ·omega
    ·rw[ah U];omega
   have lX:=λl=>afH (l:=l) Kw.1 Kw.2.2.1 h0 (by omega:j<=3)
   have h0m:=fS (a:=sX (ay w h s).1 (ay w h s).2 j) (i:=0) U U;obtain⟨f0,f1,f2⟩:=(lX _).mp h0m;rw[ak (by rw[beq_iff_eq];omega),ah U,JD,aM,VE,aM,aM]
   have qz:=K0 hs f0 f1 h0 (by omega:j<=3)
   by_cases hn:fo w h (cA w h s (rd (sX (ay w h s).1 (ay w h s).2 j) 0)) j<0
   ·have bK: ¬Bt w h s j:=λq=>by have:=qz.mpr ⟨q,f2⟩;omega
    rw[ah (by simpa using hn),aM]
    refine ih k (j+1) x U U U hx (λl l0 l1=>?_);rw[hr l l0 l1,show(j+1).toNat=j.toNat+1 by omega,Qx,Int.zero_add,show((j.toNat:Nat):Int)=j by omega]
    rw[decide_eq_false (λq=>bK ((K0 hs l0 U h0 (by omega:j<=3)).mp q).1)];simp
   ·have hed:Bt w h s j:=(qz.mp U).1;obtain⟨x',e,hl,hq⟩:=aaJ (sX (ay w h s).1 (ay w h s).2 j) U _ (λy hy=>⟨((lX y).mp hy).1,((lX y).mp hy).2.1⟩) (sX (ay w h s).1 (ay w h s).2 j).length fuel 0 x U U (by rw[de];omega) hx
    rw[ak (by simpa using hn),e,aM]
    refine ih k (j+1) x' U U U hl (λl l0 l1=>?_);rw[hq l l0 U,hr l l0 U,show(j+1).toNat=j.toNat+1 by omega,Qx,Int.zero_add,show((j.toNat:Nat):Int)=j by omega]
    congr 1
    simp only[Int.toNat_zero,List.drop_zero,decide_eq_decide];rw[lX,K0 hs l0 U h0 (by omega:j<=3)]
    exact⟨λq=>⟨hed,q.2.2⟩,λq=>⟨l0,by omega,q.2⟩⟩
  ·have e0:ay w h s=(0,0):=by unfold ay;rw[ak hs]
   have e1:sX (ay w h s).1 (ay w h s).2 j=[]:=by
    unfold sX;rw[e0];have:qL (0,0).1 (0,0).2 j=0:=by unfold qL;split<;>simp
    rw[this];rfl
   rw[e1,ah bp,aM,ah J,aM];refine ih k (j+1) x U U U hx (λl l0 l1=>?_);rw[e0] at hx;simp at hx;subst hx;simp at l1;omega
theorem aaG (w h s:Int):gV.f w h s=some (qK w h s):=by
 unfold gV.f;have hz:=uD w h s;have e:zq.f=some [0,1,2,3]:=rfl;rw[E5,aM,bd (x:=_*_) U U,ah U,e,aM];refine aaI w h s 4 fuel 0 _ U U (by rw[de];omega) bo (λl l0 l1=>?_)
 rw[wM l0 (by simpa using l1)];rfl
abbrev nK (m:aG):Prop:=iJ m.W m.H/\(m.C.length:Int)=m.W*m.H/\0∉m.C
theorem QT (m:aG) (hb:m.C.length<4611686018427387904):zl.f m=some (decide (nK m)):=by
 unfold zl.f;rw[zT]
 by_cases hm:iJ m.W m.H
 ·have hp:=pP hm;rw[bd (x:=m.W*m.H) U U,My _ _ hb]
  by_cases hl:(m.C.length:Int)=m.W*m.H
  ·simp[hm,hl]
  ·simp[hl]
 ·simp[hm]
theorem YD {x:List Int} {v:Int} (h: ∀c:Int,0<=c->c<x.length->rd x c=v):x=cy x.length v:=by
 rw[List.eq_replicate_iff];refine⟨J,λb hb=>?_⟩
 obtain⟨i,hi,rfl⟩:=List.getElem_of_mem hb;have:=h i U U;rw[iU (by simpa using hi)] at this
 simpa using this
theorem af9 (m:aG) (e:Int) (v2:List Int) (v3:Int×Int) (he:0<=e/\e<=4611686018427387904) (N:Nat) (hN:(cy (ax (af (v3.1*v3.2))) (0:Int)).length=N) (hb:N<=1000000):
 ∀(n k:Nat) (x:List Int) (i:Int),x.length=N->i+n=N->0<=i->n<k->(∀c:Int,0<=c->c<i->rd x c=e+1)->
 mh.l0 k m e v2 v3 x i=some (some (bx.mk (aG.mk m.W m.H v2) (e+1) (cy N (e+1)))):=by
 intro n
 induction n with
 |zero=>
  intro k x i hx hi h0 hk ha;obtain⟨k,rfl⟩: ∃q,k=q+1:=⟨k-1,by omega⟩
  rw[mh.l0,hN,ak U,bd U U];have:=YD (x:=x) (v:=e+1) (λc c0 c1=>ha c c0 U);rw[hx] at this;rw[this]
 |succ n ih=>
  intro k x i hx hi h0 hk ha;obtain⟨k,rfl⟩: ∃q,k=q+1:=⟨k-1,by omega⟩
  rw[mh.l0,hN,ah U,ah U,bd (x:=e+1) U U,bd (x:=i+1) U U];refine ih k _ (i+1) (by simpa using hx) U U U (λc c0 c1=>?_)
  rw[Bl h0 U c0]
  by_cases hc:c=i
  ·rw[ah hc]
  ·rw[ak hc];exact ha c c0 U
def Jz (m:aG) (e:Int):Option bx:=if nK m/\0<=e/\e<=4611686018427387904 then some (bx.mk m (e+1) (cy (dy m.W m.H).toNat (e+1))) else none
theorem abL (m:aG) (e:Int) (hb:m.C.length<=1099511627776):mh.f m e=some (Jz m e):=by
 unfold mh.f Jz;rw[QT m U]
 by_cases h:nK m/\0<=e/\e<=4611686018427387904
 ·have hc:=np m.W m.H;have hs:af ((bq m.W m.H).1*(bq m.W m.H).2)=dy m.W m.H:=bd (by unfold dy at hc;omega) (by unfold dy at hc;omega)
  simp only[aM,decide_eq_true h.1,Bool.not_true,Bool.false_or];rw[ak bo,ah h,Ro _ hb,Du];simp only[aM];rw[hs,ah U];exact af9 m e m.C _ h.2 (dy m.W m.H).toNat (by rw[hs];simp) U (dy m.W m.H).toNat fuel _ 0 bp U U (by rw[sC];omega) (λc c0 c1=>by omega)
 ·rw[ak h]
  by_cases h1:nK m
  ·have: ¬(0<=e/\e<=4611686018427387904):=λq=>h ⟨h1,q⟩
   simp only[aM,decide_eq_true h1,Bool.not_true,Bool.false_or];rw[ah bo]
  ·simp only[aM,decide_eq_false h1,Bool.not_false,Bool.true_or,if_true]
structure cL (g:bx) (more:Int):Prop where
 ok:nK g.m
 sm: ∀c:Int,0<=c->c<g.m.W*g.m.H->1<=rd g.m.C c/\rd g.m.C c<=255
 vs:(g.qf.length:Int)=dy g.m.W g.m.H
 ep:1<=g.bV/\g.bV+more<=4611686018427387905+1000/\0<=more
def bS (m:aG) (c:Int):Prop:=0<=c/\c<m.W*m.H
instance (m:aG) (c:Int):Decidable (bS m c):=by unfold bS;infer_instance
def je (g:bx) (c:Int):Int:=if bS g.m c then rd g.m.C c else 0
def fX (g:bx) (s:Int):Int:=if 0<=s/\s<dy g.m.W g.m.H then rd g.qf s else 0
def qt (g:bx) (c v:Int):bx:=bx.mk (aG.mk g.m.W g.m.H (aD g.m.C c.toNat v)) (g.bV+1) (aD g.qf (aR g.m.W g.m.H c).toNat (g.bV+1))
def Jy (g:bx) (c v:Int):Int×bx:=if ¬bS g.m c then(7,g) else if v<1∨255<v then(8,g) else(0,qt g c v)
variable {g : bx} {more : Int}
theorem VB (h:cL g more) (c:Int):(if c<0 then(some true) else(some (decide (c≥(aa g.m.C:Int)))))=some (decide (¬bS g.m c)):=by
 have hl:=h.ok.2.1;unfold bS
 by_cases h0:c<0
 ·rw[ah h0,decide_eq_true U]
 ·rw[ak h0,hl];congr 1;rw[nM];simp;omega
theorem sw (h:cL g more) (c:Int):jf.f g c=some (je g c):=by
 unfold jf.f je;rw[VB h];have hl:=h.ok.2.1
 by_cases hc:bS g.m c
 ·obtain⟨c0,c1⟩:=hc;have hb:=h.sm c c0 c1;have hc:bS g.m c:=⟨c0,c1⟩;rw[aM,ak (by simpa using hc),ah U,ah hc,bd U U]
 ·rw[aM,ah (by simpa using hc),ak hc]
theorem aa8 (h:cL g more) (c v:Int):xK.f g c v=some (Jy g c v):=by
 unfold xK.f Jy;rw[VB h];have hl:=h.ok.2.1;have hv:=h.vs
 by_cases hc:bS g.m c
 ·obtain⟨c0,c1⟩:=hc;have hc:bS g.m c:=⟨c0,c1⟩;rw[aM,ak (by simpa using hc),ak (c:= ¬bS g.m c) (λq=>q hc)]
  by_cases hq:v<1∨255<v
  ·rw[ah bo,ah hq]
  ·have gC:cV g.m.W g.m.H c:=⟨h.ok.1,c0,c1⟩;have zJ:bC g.m.W g.m.H (aR g.m.W g.m.H c):=by unfold aR;rw[ah gC];exact EZ gC
   have NV:=h.ep;rw[ak bo,ak hq,ah U,rK,aM,ah (by rw[hv];exact⟨zJ.1,zJ.2⟩),Fi U U,bd U U]
   rfl
 ·rw[aM,ah (by simpa using hc),ah (c:= ¬bS g.m c) hc]
theorem afn (h:cL g more) (h1:1<=more) {c v:Int} (hc:bS g.m c) (v0:1<=v) (v1:v<=255):cL (qt g c v) (more-1):=by
 obtain⟨c0,c1⟩:=hc;have hl:=h.ok.2.1;have NV:=h.ep;have j5: ∀d:Int,0<=d->d<g.m.W*g.m.H->1<=rd (aD g.m.C c.toNat v) d/\rd (aD g.m.C c.toNat v) d<=255:=λd d0 d1=>by
  rw[Bl c0 U d0];split
  ·exact⟨v0,v1⟩
  ·exact h.sm d d0 d1
 refine⟨⟨h.ok.1,by simp[qt,hl],λhm=>?_⟩,j5,by simp[qt,h.vs],⟨by simp[qt];omega,by simp[qt];omega,by omega⟩⟩
 obtain⟨i,hi,he⟩:=List.getElem_of_mem hm;have rp:i<(aD g.m.C c.toNat v).length:=hi;rw[nO] at rp;have:=j5 i U U;rw[iU (show(i:Int).toNat<(aD g.m.C c.toNat v).length by rw[nO];omega)] at this
 have he:(aD g.m.C c.toNat v)[i]=0:=he;simp only[Int.toNat_natCast] at this;omega
def lM (m:aG) (c:Int):Bool:=decide (bS m c)&&decide (rd m.C c≠255)
theorem ph {m:aG} {c:Int}:lM m c=true↔bS m c/\rd m.C c≠255:=by simp[lM]
theorem O9 {g:bx} {more:Int} (h:cL g more) (c:Int):uY.f g c=some (lM g.m c):=by
 unfold uY.f;rw[sw h,aM];unfold je lM
 by_cases hc:bS g.m c
 ·have:=h.sm c hc.1 hc.2;rw[ah hc,decide_eq_true hc]
  congr 1
  rw[nM];simp;omega
 ·rw[ak hc,decide_eq_false hc];simp
theorem ahr {m:aG} (hm:nK m) (c:Int):Di.f m c=some (lM m c):=by
 unfold Di.f lM;have hl:=hm.2.1
 by_cases hc:bS m c
 ·obtain⟨c0,c1⟩:=hc;have hc:bS m c:=⟨c0,c1⟩;rw[ah c0,ah U,ah U,decide_eq_true hc];simp[bne]
  rfl
 ·rw[decide_eq_false hc];unfold bS at hc
  by_cases c0:c≥0
  ·rw[ah c0,ak U];rfl
  ·rw[ak c0];rfl
theorem aia (m:aG) {c:Int} (hc:c<0):lM m c=false:=by
 unfold lM;rw[decide_eq_false (λq=>by have:=q.1;omega)];rfl
def bP (m:aG) (s:Int):List Int:=(qK m.W m.H s).filter (lM m)
theorem Rn (w h s:Int):(qK w h s).length<=256:=by
 have:=uD w h s;have:=Rm w h s ((ay w h s).1*(ay w h s).2).toNat;unfold qK;omega
theorem agl {g:bx} {more:Int} (h:cL g more) (v:List Int) (hv:v.length<=1000): ∀(n k:Nat) (i:Int) (x:List Int),i+n=v.length->0<=i->n<k->x.length<=i.toNat->
 ko.l0 k g v x i=some (x++(v.drop i.toNat).filter (lM g.m)):=by
 intro n
 induction n with
 |zero=>
  intro k i x hi h0 hk hx;obtain⟨k,rfl⟩:=bw hk;rw[ko.l0,ak U,DT U];simp
 |succ n ih=>
  intro k i x hi h0 hk hx;obtain⟨k,rfl⟩:=bw hk;rw[ko.l0,ah U,ah U,O9 h,aM,bd U U,F8 h0 U]
  by_cases ho:lM g.m (rd v i)=true
  ·rw[ah ho,ah U,ih k (i+1) _ U U U bo,List.filter_cons_of_pos ho];simp
  ·rw[ak ho,ih k (i+1) _ U U U U,List.filter_cons_of_neg ho]
theorem Vn {g:bx} {more:Int} (h:cL g more) (s:Int):ko.f g s=some (bP g.m s):=by
 unfold ko.f;have e0:iQ.f g=some (g.m.W,g.m.H):=rfl;have hl:=Rn g.m.W g.m.H s;rw[e0,aM,aaG,aM];have:=agl h (qK g.m.W g.m.H s) U (qK g.m.W g.m.H s).length fuel 0 [] U U (by rw[de];omega) bp
 exact this
def wX (m:aG) (c:Int) (n:Nat):List ez:=((List.range n).filter (λj:Nat=>lM m (fo m.W m.H c (j:Int)))).map (λj:Nat=>ez.mk (fo m.W m.H c (j:Int)) (rd m.C (fo m.W m.H c (j:Int))))
def uq (m:aG) (c:Int):List ez:=if lM m c=true then wX m c 4 else[]
theorem aaY (m:aG) (c:Int) (n:Nat):wX m c (n+1)=if lM m (fo m.W m.H c (n:Int))=true then wX m c n++[ez.mk (fo m.W m.H c (n:Int)) (rd m.C (fo m.W m.H c (n:Int)))] else wX m c n:=by
 unfold wX;rw[List.range_succ,List.filter_append,List.map_append]
 by_cases h:lM m (fo m.W m.H c (n:Int))=true
 ·rw[ah h];simp[h]
 ·rw[ak h];simp[h]
theorem RD (m:aG) (c:Int) (n:Nat):(wX m c n).length<=n:=by
 unfold wX;rw[List.length_map];have:=List.length_filter_le (λj:Nat=>lM m (fo m.W m.H c (j:Int))) (List.range n);simpa using this
theorem aaZ {g:bx} {more:Int} (h:cL g more) (c:Int):nT.f g c=some (uq g.m c):=by
 unfold nT.f uq;have e0:iQ.f g=some (g.m.W,g.m.H):=rfl;have e:zq.f=some [0,1,2,3]:=rfl;rw[e0,aM,O9 h,aM]
 by_cases ho:lM g.m c=true
 ·rw[ak (by rw[ho];simp),e,aM,ah ho]
  have key: ∀(n k:Nat) (j:Int),j+n=4->0<=j->n<k->nT.l0 k g c (g.m.W,g.m.H) [0,1,2,3] (wX g.m c j.toNat) j=some (wX g.m c 4):=by
   intro n
   induction n with
   |zero=>
    intro k j hj h0 hk;obtain⟨k,rfl⟩:=bw hk;rw[nT.l0,ak U];rw[show j.toNat=4 by omega]
   |succ n ih=>
    intro k j hj h0 hk;obtain⟨k,rfl⟩:=bw hk;have hle:=RD g.m c j.toNat;have:=ih k (j+1) U U U;rw[show(j+1).toNat=j.toNat+1 by omega,aaY,show((j.toNat:Nat):Int)=j by omega] at this
    rw[nT.l0,ah U,W2 h0 U,VE,ah bo,aM,bd U U];have e2:(if fo g.m.W g.m.H c j≥0 then((uY.f g (fo g.m.W g.m.H c j)).bind λv12=>some v12) else(some false))=some (lM g.m (fo g.m.W g.m.H c j)):=by
     by_cases hn:fo g.m.W g.m.H c j≥0
     ·rw[ah hn,O9 h];rfl
     ·rw[ak hn,aia _ U]
    rw[e2,aM]
    by_cases hq:lM g.m (fo g.m.W g.m.H c j)=true
    ·rw[ah hq] at this;have El:je g (fo g.m.W g.m.H c j)=rd g.m.C (fo g.m.W g.m.H c j):=by unfold je;rw[ah (ph.mp hq).1]
     rw[ah hq,sw h,aM,ah U,El];exact this
    ·rw[ak hq] at this;rw[ak hq];exact this
  exact key 4 fuel 0 U U (by rw[de];omega)
 ·rw[ah (by simpa using ho),ak ho]
theorem CT {tw th side:Int} (t0:0<=tw) (t1:tw<=16) (u0:0<=th) (u1:th<=16):0<=qL tw th side/\qL tw th side<=16:=by
 unfold qL;split
 ·omega
 ·split<;>omega
theorem RE (m:aG) (c:Int):(uq m c).length<=4:=by
 unfold uq;split
 ·exact RD m c 4
 ·simp
def jd (p:Int->Bool):Nat->Nat
 |0=>0
 |n+1=>jd p n+if p n then 1 else 0
theorem D8 (p:Int->Bool): ∀n,jd p n<=n
 |0=>jW _
 |n+1=>by have:=D8 p n;unfold jd;split<;>omega
theorem Rs {p q:Int->Bool}: ∀{n:Nat},(∀i:Int,0<=i->i<n->p i=q i)->jd p n=jd q n
 |0,_=>rfl
 |n+1,h=>by unfold jd;rw[Rs (λi a b=>h i a U),h n U U]
theorem Mw {p q:Int->Bool} {c:Int}: ∀{n:Nat},0<=c->c<n->p c=true->q c=false->(∀i:Int,0<=i->i<n->i≠c->q i=p i)->jd p n=jd q n+1
 |0,h0,h1,_,_,_=>by omega
 |n+1,h0,h1,hp,hq,he=>by
  unfold jd
  by_cases z:c=n
  ·subst z;rw[hp,hq,Rs (p:=p) (q:=q) (λi a b=>(he i a U U).symm)];simp
  ·rw[Mw h0 U hp hq (λi a b=>he i a U),he n U U (λy=>z y.symm)];omega
theorem fI {m:aG} (hm:nK m) {c:Int} (h:bS m c):cV m.W m.H c:=⟨hm.1,h.1,h.2⟩
theorem Lk {m:aG} {c s:Int} (h0: ¬bk m.W m.H c s<0):bS m (bk m.W m.H c s):=by
 unfold bk at h0⊢;split at h0
 ·rename_i h;rw[ah h];unfold ou at h0⊢;split at h0
  ·rename_i q;rw[ah q];exact tM q.2.1 q.2.2.1 q.2.2.2.1 q.2.2.2.2
  ·omega
 ·omega
theorem Bz (g:bx):iQ.f g=some (g.m.W,g.m.H):=rfl
theorem F_ (g:bx):pE.f g=some g.bV:=rfl
end Go.Proofs.YthodkonhneebbaaGreatDoor
