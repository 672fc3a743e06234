/- What the functions do, in plain Lean, on the objects that are kept in order. -/
import Derived.Test.YthodkonhneebbaaGreatDoorKD6
import Derived.Test.YthodkonhneebbaaGreatDoorKD5
import Derived.Test.YthodkonhneebbaaGreatDoorKD10
import Derived.Test.YthodkonhneebbaaGreatDoorKD7
import Derived.Test.YthodkonhneebbaaGreatDoorKD9
namespace Go.Proofs.YthodkonhneebbaaGreatDoor
open Go.Hx
open Int renaming tmod->fy,tdiv->cZ,fdiv->fL,toNat->ax,emod_lt_of_pos->Ax,mul_comm->mv,mul_le_mul_of_nonneg_right->BL,mul_ediv_add_emod->uy,le_refl->dP
open List renaming length->aa,set->aD,replicate->ct,length_set->nF,append_nil->sY,length_cons->uA,mem_cons_self->na,mem_cons_of_mem->pj,mem_cons->nG,not_mem_nil->rR,length_append->yS
open BitVec renaming toNat->fX,ofInt->cg
open Nat renaming le_refl->jM
open Bool renaming eq_iff_iff->nD,false_eq_true->ji
open Classical renaming byContradiction->pg
set_option linter.unusedVariables false
set_option linter.unusedSimpArgs false
theorem bc {x:Int} (h1: -9223372036854775808<=x) (h2:x<=9223372036854775807):af x=x:=by
 unfold af IntKind.wrap IntKind.signed IntKind.bits;simp;omega
theorem pZ {a b:Int} (h:0<=a):cZ a b=a/b:=Int.tdiv_eq_ediv_of_nonneg h
theorem mV {a b:Int} (h:0<=a):fy a b=a%b:=Int.tmod_eq_emod_of_nonneg h
abbrev iF (w h:Int):Prop:=1<=w/\w<=1024/\1<=h/\h<=1024
abbrev cR (w h c:Int):Prop:=iF w h/\0<=c/\c<w*h
theorem kT {a b m n:Int} (ha:0<=a) (hb:0<=b) (h1:a<=m) (h2:b<=n):a*b<=m*n:=
 Int.mul_le_mul h1 h2 hb U
theorem nj {a b:Int} (ha:0<=a) (hb:0<=b):0<=a*b:=Int.mul_nonneg ha hb
theorem pJ {w h:Int} (hm:iF w h):1<=w*h/\w*h<=1048576:=by
 obtain⟨a,b,c,d⟩:=hm;have h1:w*h<=1024*1024:=kT U U b d;have h2:1*1<=w*h:=Int.mul_le_mul a c U U;omega
theorem zH (w h:Int):oy.f w h=some (decide (iF w h)):=by
 unfold oy.f
 congr 1
 simp only[iF];rw[nD];simp;omega
theorem GJ (n lo hi:Int):mO.f n lo hi=some (decide (lo<=n/\n<=hi)):=by
 unfold mO.f
 congr 1
 rw[nD];simp
theorem OT (w h:Int):wC.f w h=some (decide (iF w h)):=by
 unfold wC.f;simp only[GJ,aM,iF]
 by_cases h1:1<=w/\w<=1024
 ·simp[h1]
 ·simp[h1];omega
def bn (w h:Int):Int×Int:=if iF w h then((w+15)/16,(h+15)/16) else(0,0)
theorem Di (w h:Int):qI.f w h=some (bn w h):=by
 unfold qI.f bn;simp only[zH,aM]
 by_cases hm:iF w h
 ·rw[decide_eq_true hm,ah hm,aj bd];obtain⟨a,b,c,d⟩:=hm;simp only[bc (x:=w+16) U U,bc (x:=h+16) U U,bc (x:=w+16-1) U U,bc (x:=h+16-1) U U,
   pZ (a:=w+16-1) U,pZ (a:=h+16-1) U,bc (x:=(w+16-1)/16) U U,bc (x:=(h+16-1)/16) U U]
  congr 2<;>omega
 ·simp[hm]
theorem OW (w h:Int):wD.f w h=some (bn w h):=by
 rw[<-Di];unfold wD.f qI.f;rw[OT,zH]
theorem Dj {w h:Int} (hm:iF w h):1<=(bn w h).1/\(bn w h).1<=64/\1<=(bn w h).2/\(bn w h).2<=64:=by
 unfold bn;rw[ah hm];obtain⟨a,b,c,d⟩:=hm;simp only;omega
theorem ahl (w h:Int):0<=(bn w h).1/\(bn w h).1<=64/\0<=(bn w h).2/\(bn w h).2<=64:=by
 by_cases hm:iF w h
 ·have:=Dj hm;omega
 ·unfold bn;rw[aj hm];simp
def dB (w h:Int):Int:=(bn w h).1*(bn w h).2
theorem nP (w h:Int):0<=dB w h/\dB w h<=4096:=by
 obtain⟨a,b,c,d⟩:=ahl w h;have h1:dB w h<=64*64:=kT a c b d;have h2:0<=dB w h:=nj a c;omega
theorem aaA {w h:Int} (hm:iF w h):1<=dB w h:=by
 obtain⟨a,b,c,d⟩:=Dj hm;have h2:1*1<=dB w h:=Int.mul_le_mul a c U U;omega
theorem OP (w h:Int):zO.f w h=some (dB w h):=by
 unfold zO.f;have:=nP w h;simp only[OW,aM,dB];unfold dB at this;rw[bc U U]
abbrev bC (w h s:Int):Prop:=0<=s/\s<dB w h
def HI (w h s:Int):Int×Int×Bool:=if bC w h s then(16*(s%(bn w h).1),16*(s/(bn w h).1),true) else(0,0,false)
theorem ue {w h s:Int} (hs:bC w h s):iF w h:=by
 by_cases hm:iF w h
 ·exact hm
 ·have:dB w h=0:=by unfold dB bn;rw[aj hm];simp
  obtain⟨a,b⟩:=hs;omega
theorem uf {w h s:Int} (hs:bC w h s):0<=s%(bn w h).1/\s%(bn w h).1<(bn w h).1/\0<=s/(bn w h).1/\s/(bn w h).1<(bn w h).2:=by
 obtain⟨a,b,c,d⟩:=Dj (ue hs);obtain⟨h0,h1⟩:=hs;refine⟨Int.emod_nonneg _ U,Ax _ U,Int.ediv_nonneg h0 U,?_⟩;unfold dB at h1;exact Int.ediv_lt_of_lt_mul U (by rw[mv];exact h1)
theorem Rb (w h s:Int):Ah.f w h s=some (HI w h s):=by
 unfold Ah.f HI;simp only[Di,aM];have hc:=nP w h;have hw:af ((bn w h).1*(bn w h).2)=dB w h:=by unfold dB at hc⊢;exact bc U U
 rw[hw]
 by_cases hs:bC w h s
 ·have hb:((decide (s<0))||(decide (s≥dB w h)))=false:=by
   obtain⟨h0,h1⟩:=hs;simp;omega
  rw[hb];obtain⟨p1,p2,p3,p4⟩:=uf hs;obtain⟨a,b,c,d⟩:=Dj (ue hs);have bI: ¬(bn w h).1=0:=U;rw[aj bd,ah bI,ah bI,ah hs,mV hs.1,pZ hs.1];rw[bc (x:=s/(bn w h).1) U U,bc U U,bc U U];rw[mv 16,mv 16]
 ·have hb:((decide (s<0))||(decide (s≥dB w h)))=true:=by
   simp only[bC] at hs;simp;omega
  rw[hb,aj hs];rfl
def ay (w h s:Int):Int×Int:=if bC w h s then(min 16 (w-16*(s%(bn w h).1)),min 16 (h-16*(s/(bn w h).1))) else(0,0)
theorem Pb {w h s:Int} (hs:bC w h s):16*(s%(bn w h).1)<w/\16*(s/(bn w h).1)<h:=by
 have hm:=ue hs;obtain⟨p1,p2,p3,p4⟩:=uf hs;have e1:(bn w h).1=(w+15)/16:=by unfold bn;rw[ah hm]
 have e2:(bn w h).2=(h+15)/16:=by unfold bn;rw[ah hm]
 generalize s%(bn w h).1=x at*;generalize s/(bn w h).1=y at*;omega
theorem Kw (x:Int):(if x<16 then x else 16)=min 16 x:=by
 rw[Int.min_def];split<;>split<;>omega
theorem ER (w h s:Int):rF.f w h s=some (ay w h s):=by
 unfold rF.f ay;simp only[Rb,aM];unfold HI
 by_cases hs:bC w h s
 ·rw[ah hs,ah hs];obtain⟨r1,r2⟩:=Pb hs;obtain⟨p1,p2,p3,p4⟩:=uf hs;obtain⟨a,b,c,d⟩:=ue hs;rw[aj bd];simp only;rw[bc (x:=w-_) U U,bc (x:=h-_) U U,Kw,Kw]
 ·rw[aj hs,aj hs];rfl
theorem Wn (w h s:Int):zP.f w h s=some (ay w h s):=by
 unfold zP.f ay;have hc:=nP w h;simp only[OP,aM,GJ,OW];rw[bc (x:=dB w h-1) U U]
 by_cases hs:bC w h s
 ·have hb:decide (0<=s/\s<=dB w h-1)=true:=by obtain⟨h0,h1⟩:=hs;simp;omega
  rw[hb,ah hs];obtain⟨r1,r2⟩:=Pb hs;obtain⟨p1,p2,p3,p4⟩:=uf hs;obtain⟨a,b,c,d⟩:=Dj (ue hs);obtain⟨m1,m2,m3,m4⟩:=ue hs;have bI: ¬(bn w h).1=0:=U;rw[aj bd,ah bI,ah bI,mV hs.1,pZ hs.1];rw[bc (x:=s/(bn w h).1) U U,bc (x:=16*(s%_)) U U,bc (x:=16*(s/_)) U U,
   bc (x:=w-_) U U,bc (x:=h-_) U U,Kw,Kw]
 ·have hb:decide (0<=s/\s<=dB w h-1)=false:=by simp only[bC] at hs;simp;omega
  rw[hb,aj hs];rfl
theorem pV {w h s:Int} (hs:bC w h s):1<=(ay w h s).1/\(ay w h s).1<=16/\1<=(ay w h s).2/\(ay w h s).2<=16:=by
 obtain⟨r1,r2⟩:=Pb hs;unfold ay;rw[ah hs];simp only;omega
theorem size_le (w h s:Int):0<=(ay w h s).1/\(ay w h s).1<=16/\0<=(ay w h s).2/\(ay w h s).2<=16:=by
 by_cases hs:bC w h s
 ·have:=pV hs;omega
 ·unfold ay;rw[aj hs];simp
def oe (w h x y:Int):Int:=if iF w h/\0<=x/\x<w/\0<=y/\y<h then y*w+x else-1
theorem tm {w h x y:Int} (hx:0<=x) (wk:x<w) (hy:0<=y) (Ue:y<h):0<=y*w+x/\y*w+x<w*h:=by
 have h1:(y+1)*w<=h*w:=BL U U;have h2:(y+1)*w=y*w+w:=by rw[Int.add_mul];omega
 have h3:0<=y*w:=nj hy U;have h4:h*w=w*h:=mv _ _;omega
theorem Q2 (w h x y:Int):Ag.f w h x y=some (oe w h x y):=by
 unfold Ag.f oe;simp only[zH,aM]
 by_cases hc:iF w h/\0<=x/\x<w/\0<=y/\y<h
 ·obtain⟨hm,h1,h2,h3,h4⟩:=hc;have hb:(((((!decide (iF w h))||(decide (x<0)))||(decide (x≥w)))||(decide (y<0)))||(decide (y≥h)))=false:=by
   simp[hm];omega
  rw[hb,aj bd,ah ⟨hm,h1,h2,h3,h4⟩];have:=tm h1 h2 h3 h4;have hp:=pJ hm;have h5:0<=y*w:=nj h3 U;rw[bc (x:=y*w) U U,bc U U]
 ·have hb:(((((!decide (iF w h))||(decide (x<0)))||(decide (x≥w)))||(decide (y<0)))||(decide (y≥h)))=true:=by
   by_cases hm:iF w h
   ·have mc: ¬(0<=x/\x<w/\0<=y/\y<h):=λh=>hc ⟨hm,h⟩
    simp[hm];omega
   ·simp[hm]
  rw[hb,aj hc];rfl
theorem Um (w h c:Int):wX.f w h c=some (decide (cR w h c)):=by
 unfold wX.f;simp only[zH,aM]
 by_cases hm:iF w h
 ·have hp:=pJ hm;rw[bc U U];simp[hm]
 ·simp[hm]
theorem agR (w h c:Int):C8.f w h c=some (decide (cR w h c)):=by
 unfold C8.f;simp only[OT,aM,GJ]
 by_cases hm:iF w h
 ·have hp:=pJ hm;rw[bc (x:=w*h) U U,bc (x:=w*h-1) U U];rw[decide_eq_true hm,ah J];simp only[aM]
  congr 1
  rw[nD];simp[hm];omega
 ·simp[hm]
def Bg (w h c:Int):Int×Int:=if cR w h c then(c%w,c/w) else(-1,-1)
theorem ve {w h c:Int} (hc:cR w h c):0<=c%w/\c%w<w/\0<=c/w/\c/w<h:=by
 obtain⟨⟨a,b,d,e⟩,h0,h1⟩:=hc;exact⟨Int.emod_nonneg _ U,Ax _ U,Int.ediv_nonneg h0 U,Int.ediv_lt_of_lt_mul U (by rw[mv];exact h1)⟩
theorem OK (w h c:Int):wW.f w h c=some (Bg w h c):=by
 unfold wW.f Bg;simp only[Um,aM]
 by_cases hc:cR w h c
 ·have hp:=ve hc;have hm:=hc.1;have bI: ¬w=0:=by obtain⟨a,_⟩:=hm;omega
  rw[aj (by simp[hc]),ah bI,ah bI,ah hc,mV hc.2.1,pZ hc.2.1]
  obtain⟨a,b,d,e⟩:=hm;rw[bc U U]
 ·simp[hc]
theorem Ey {w h c:Int}:(Bg w h c).1<0↔ ¬cR w h c:=by
 unfold Bg
 by_cases hc:cR w h c
 ·have:=ve hc;rw[ah hc];exact⟨λh=>by simp only at h;omega,λh=>absurd hc h⟩
 ·rw[aj hc];simp[hc]
def aQ (w h c:Int):Int:=if cR w h c then c/w/16*(bn w h).1+c%w/16 else-1
theorem Dg {w h c:Int} (hc:cR w h c):0<=c%w/16/\c%w/16<(bn w h).1/\0<=c/w/16/\c/w/16<(bn w h).2:=by
 have hp:=ve hc;have e1:(bn w h).1=(w+15)/16:=by unfold bn;rw[ah hc.1]
 have e2:(bn w h).2=(h+15)/16:=by unfold bn;rw[ah hc.1]
 rw[e1,e2];generalize c%w=x at*;generalize c/w=y at*;omega
theorem EM {w h c:Int} (hc:cR w h c):bC w h (c/w/16*(bn w h).1+c%w/16):=by
 obtain⟨a,b,d,e⟩:=Dg hc;have:=tm a b d e;unfold bC dB;exact this
theorem ru (w h c:Int):gy.f w h c=some (aQ w h c):=by
 unfold gy.f aQ;simp only[OK,aM]
 by_cases hc:cR w h c
 ·rw[aj (by rw[Ey];simp[hc]),Di]
  simp only[aM,Bg];rw[ah hc,ah hc];have hp:=ve hc;obtain⟨a,b,d,e⟩:=Dg hc;obtain⟨m1,m2,m3,m4⟩:=Dj hc.1;have hs:=EM hc;have hk:=nP w h;obtain⟨s1,s2⟩:=hs;have h5:0<=c/w/16*(bn w h).1:=nj d U;simp only;rw[pZ hp.2.2.1,pZ hp.1,bc (x:=c/w/16) U U,bc (x:=c%w/16) U U,bc (x:=_*_) U U,bc U U]
 ·rw[ah (by rw[Ey];exact hc),aj hc]
theorem pL {a x y:Int} (h0:0<=x) (h1:x<a):(y*a+x)%a=x/\(y*a+x)/a=y:=by
 have ha:a≠0:=U;constructor
 ·rw[Int.add_comm,Int.add_mul_emod_self_right];exact Int.emod_eq_of_lt h0 h1
 ·rw[Int.add_comm,Int.add_mul_ediv_right _ _ ha,Int.ediv_eq_zero_of_lt h0 h1];omega
def cy (w h c:Int):Int:=if cR w h c then c/w%16*(ay w h (aQ w h c)).1+c%w%16 else-1
theorem Oi {w h c:Int} (hc:cR w h c):c%w%16<(ay w h (aQ w h c)).1/\c/w%16<(ay w h (aQ w h c)).2:=by
 have hs:=EM hc;obtain⟨a,b,d,e⟩:=Dg hc;have hn:=pL (a:=(bn w h).1) (x:=c%w/16) (y:=c/w/16) a b;have hp:=ve hc;unfold aQ;rw[ah hc];unfold ay;rw[ah hs,hn.1,hn.2];simp only;generalize c%w=x at*;generalize c/w=y at*;omega
theorem Dh {w h c:Int}:aQ w h c<0↔ ¬cR w h c:=by
 unfold aQ
 by_cases hc:cR w h c
 ·have:=EM hc;rw[ah hc];exact⟨λh=>by unfold bC at this;omega,λh=>absurd hc h⟩
 ·rw[aj hc];simp[hc]
def cu (w h s l:Int):Int:=
 if bC w h s/\0<=l/\l<(ay w h s).1*(ay w h s).2 then(16*(s/(bn w h).1)+l/(ay w h s).1)*w+(16*(s%(bn w h).1)+l%(ay w h s).1) else-1
theorem vT {w h s l:Int} (hs:bC w h s) (h0:0<=l) (h1:l<(ay w h s).1*(ay w h s).2):
 0<=l%(ay w h s).1/\l%(ay w h s).1<(ay w h s).1/\0<=l/(ay w h s).1/\l/(ay w h s).1<(ay w h s).2/\
 16*(s%(bn w h).1)+l%(ay w h s).1<w/\16*(s/(bn w h).1)+l/(ay w h s).1<h:=by
 obtain⟨z1,z2,z3,z4⟩:=pV hs;have a1:0<=l%(ay w h s).1:=Int.emod_nonneg _ U;have a2:l%(ay w h s).1<(ay w h s).1:=Ax _ U;have a3:0<=l/(ay w h s).1:=Int.ediv_nonneg h0 U;have a4:l/(ay w h s).1<(ay w h s).2:=Int.ediv_lt_of_lt_mul U (by rw[mv];exact h1)
 refine⟨a1,a2,a3,a4,?_,?_⟩
 ·have:(ay w h s).1<=w-16*(s%(bn w h).1):=by unfold ay;rw[ah hs];simp only;omega
  omega
 ·have:(ay w h s).2<=h-16*(s/(bn w h).1):=by unfold ay;rw[ah hs];simp only;omega
  omega
theorem Jp (w h s l:Int):ur.f w h s l=some (cu w h s l):=by
 unfold ur.f cu;simp only[Rb,aM,ER,Q2];have hz:=size_le w h s;have Ke:(ay w h s).1*(ay w h s).2<=16*16:=kT hz.1 hz.2.2.1 hz.2.1 hz.2.2.2;have hz2:0<=(ay w h s).1*(ay w h s).2:=nj hz.1 hz.2.2.1;rw[bc (x:=_*(ay w h s).2) U U]
 by_cases hs:bC w h s
 ·unfold HI;rw[ah hs]
  by_cases hl:0<=l/\l<(ay w h s).1*(ay w h s).2
  ·obtain⟨a1,a2,a3,a4,a5,a6⟩:=vT hs hl.1 hl.2;obtain⟨z1,z2,z3,z4⟩:=pV hs;obtain⟨m1,m2,m3,m4⟩:=ue hs;obtain⟨p1,p2,p3,p4⟩:=uf hs;have bI: ¬(ay w h s).1=0:=U;rw[aj bo,ah bI,ah bI,ah (c:=bC w h s/\_) ⟨hs,hl⟩];simp only;rw[mV hl.1,pZ hl.1,bc (x:=l/_) U U,bc (x:=_+l%_) U U,bc (x:=_+l/_) U U];unfold oe;rw[ah ⟨⟨m1,m2,m3,m4⟩,by omega,a5,by omega,a6⟩]
  ·rw[ah bo,aj (λh=>hl h.2)]
 ·unfold HI;rw[aj hs,ah bd,aj (c:=bC w h s/\_) (λh=>hs h.1)]
theorem agP (w h s l:Int):C7.f w h s l=some (cu w h s l):=by
 unfold C7.f cu;simp only[Wn,aM,GJ,OW];have hz:=size_le w h s;have Ke:(ay w h s).1*(ay w h s).2<=16*16:=kT hz.1 hz.2.2.1 hz.2.1 hz.2.2.2;have hz2:0<=(ay w h s).1*(ay w h s).2:=nj hz.1 hz.2.2.1;rw[bc (x:=_*(ay w h s).2) U U,bc (x:=_*(ay w h s).2-1) U U]
 by_cases hs:bC w h s
 ·by_cases hl:0<=l/\l<(ay w h s).1*(ay w h s).2
  ·obtain⟨a1,a2,a3,a4,a5,a6⟩:=vT hs hl.1 hl.2;obtain⟨z1,z2,z3,z4⟩:=pV hs;obtain⟨m1,m2,m3,m4⟩:=ue hs;obtain⟨p1,p2,p3,p4⟩:=uf hs;obtain⟨s1,s2,s3,s4⟩:=Dj (ue hs);have bI: ¬(ay w h s).1=0:=U;have TM: ¬(bn w h).1=0:=U;rw[aj bo,ah (c:=bC w h s/\_) ⟨hs,hl⟩,ah TM,ah bI,ah TM,ah bI,mV hl.1,pZ hl.1,mV hs.1,pZ hs.1];have hg:=tm (w:=w) (h:=h) (x:=16*(s%(bn w h).1)+l%(ay w h s).1) (y:=16*(s/(bn w h).1)+l/(ay w h s).1) U a5 U a6;have hq:0<=(16*(s/(bn w h).1)+l/(ay w h s).1)*w:=nj U U;have hp:=pJ (ue hs);rw[bc (x:=l/_) U U,bc (x:=s/_) U U,bc (x:=16*(s/_)) U U,bc (x:=16*(s/_)+_) U U,
    bc (x:=_*w) U U,bc (x:=16*(s%_)) U U,bc (x:=_*w+_) U U,bc U U]
   congr 1;omega
  ·rw[ah bo,aj (λh=>hl h.2)]
 ·have h1:(ay w h s).1=0:=by unfold ay;rw[aj hs]
  rw[ah (by simp[h1];omega),aj (λh=>hs h.1)]
theorem PL {n lo hi:Int} (me: -4611686018427387904<=lo) (wb:hi<=4611686018427387904) (hle:lo<=hi) (hn:hi-lo<=4611686018427387904):eT.f n lo hi=some (lo+n%(hi-lo+1)):=by
 unfold eT.f;rw[bc (x:=hi-lo) U U,bc (x:=hi-lo+1) U U,ah U];generalize hm:hi-lo+1=m;have Cp:0<m:=U;have h1:0<=n%m:=Int.emod_nonneg _ U;have h2:n%m<m:=Ax _ Cp
 by_cases AV:0<=n
 ·rw[mV AV,aj U,bc U U]
 ·have ha:fy n m=if n%m=0 then 0 else n%m-m:=by
   rw[Int.tmod_eq_emod];have hd:(m∣n)↔n%m=0:=⟨Int.emod_eq_zero_of_dvd,Int.dvd_of_emod_eq_zero⟩
   by_cases h0:n%m=0
   ·simp[h0,hd]
   ·simp[h0,hd,AV];omega
  rw[ha]
  by_cases h0:n%m=0
  ·rw[ah h0,aj U,bc U U,h0]
  ·rw[aj h0,ah U,bc (x:=_+hi) U U,bc (x:=_-lo) U U,bc (x:=_+1) U U,bc U U]
   congr 1;omega
theorem PM {n lo hi:Int} (hle:lo<=hi):lo<=lo+n%(hi-lo+1)/\lo+n%(hi-lo+1)<=hi:=by
 have h1:0<=n%(hi-lo+1):=Int.emod_nonneg _ U;have h2:n%(hi-lo+1)<hi-lo+1:=Ax _ U;omega
theorem E7 {x:Int} (h1:0<=x) (h2:x<=255):bN x=x:=by
 unfold bN IntKind.wrap IntKind.signed IntKind.bits;simp;omega
theorem r7:fuel=18446744073709551616:=by unfold fuel;rfl
theorem A9 {α:Type} [Inhabited α] {L:List α} {i c:Int} {v:α} (h0:0<=i) (h1:i<L.length) (c0:0<=c):rd (aD L i.toNat v) c=if c=i then v else rd L c:=by
 unfold rd
 by_cases hc:c=i
 ·subst hc;rw[ah rfl];simp[List.getD,show c.toNat<L.length by omega]
 ·rw[aj hc];have:i.toNat≠c.toNat:=U;simp[List.getD,this]
theorem Wb {α:Type} [Inhabited α] {L:List α} {v:α} {c:Int} (c0:0<=c) (h:c<=L.length):rd (L++[v]) c=if c=L.length then v else rd L c:=by
 unfold rd
 by_cases hc:c=L.length
 ·rw[ah hc,hc];simp[List.getD]
 ·rw[aj hc];simp[List.getD,List.getElem?_append_left (show c.toNat<L.length by omega)]
theorem Rk {α:Type} [Inhabited α] {a:List α} {i:Int} (h0:0<=i) (h1:i<a.length):a.drop i.toNat=rd a i::a.drop (i+1).toNat:=by
 have aS:i.toNat<a.length:=U;rw[iP aS,show(i+1).toNat=i.toNat+1 by omega]
 exact List.drop_eq_getElem_cons aS
theorem sG {α:Type} [Inhabited α] {a:List α} {i:Int} (h0:0<=i) (h1:i<a.length):rd a i∈a:=by
 rw[iP U];exact List.getElem_mem _
theorem Q6 (s:List Int) (h:s.length<=1099511627776):oo.f s=some s:=by
 unfold oo.f;rw[ah (by simpa using h)];simp
theorem aeg (s:List Int) (v:Int) (hb:s.length<=4611686018427387904): ∀(n k:Nat) (i:Int),i+n=s.length->0<=i->n<k->
 ∃r,rD.l0 k s v i=some r/\(0<=r↔v∈s.drop i.toNat):=by
 intro n
 induction n with
 |zero=>
  intro k i hi h0 hk;obtain⟨k,rfl⟩: ∃q,k=q+1:=⟨k-1,by omega⟩
  rw[rD.l0,aj U,List.drop_of_length_le U];exact⟨_,J,by simp⟩
 |succ n ih=>
  intro k i hi h0 hk;obtain⟨k,rfl⟩: ∃q,k=q+1:=⟨k-1,by omega⟩
  rw[rD.l0,ah U,ah U,Rk h0 U]
  by_cases he:v=rd s i
  ·rw[ah (by simpa using he)]
   exact⟨_,J,by simp[he,h0]⟩
  ·rw[aj (by simpa using he),bc U U]
   obtain⟨r,h1,h2⟩:=ih k (i+1) U U U;exact⟨r,h1,by rw[h2];simp[he]⟩
theorem Mb (s:List Int) (v:Int) (hb:s.length<4611686018427387904):wQ.f s v=some (decide (v∈s)):=by
 unfold wQ.f rD.f;obtain⟨r,h1,h2⟩:=aeg s v U s.length fuel 0 U U (by rw[r7];omega)
 rw[h1,aM]
 congr 1
 rw[nD];simpa using h2
def dX (side:Int):Int:=if side=1 then 1 else if side=3 then-1 else 0
def dY (side:Int):Int:=if side=0 then-1 else if side=2 then 1 else 0
def bj (w h c side:Int):Int:=
 if cR w h c/\0<=side/\side<=4 then oe w h (c%w+dX side) (c/w+dY side) else-1
theorem EW (w h c side:Int):mY.f w h c side=some (bj w h c side):=by
 unfold mY.f bj;simp only[OK,aM]
 by_cases hc:cR w h c
 ·rw[aj (by rw[Ey];simp[hc])]
  have hp:=ve hc;obtain⟨q1,q2,q3,q4⟩:=hc.1;have e:Bg w h c=(c%w,c/w):=by unfold Bg;rw[ah hc]
  simp only[e,Q2,aM];have e1:af (c/w+ -1)=c/w+ -1:=bc U U;have e2:af (c/w+1)=c/w+1:=bc U U;have e3:af (c%w+ -1)=c%w+ -1:=bc U U;have e4:af (c%w+1)=c%w+1:=bc U U
  by_cases h0:side=0
  ·subst h0;simp[e1,dX,dY,hc]
  by_cases h2:side=2
  ·subst h2;simp[e2,dX,dY,hc]
  by_cases h3:side=3
  ·subst h3;simp[e3,dX,dY,hc]
  by_cases h1:side=1
  ·subst h1;simp[e4,dX,dY,hc]
  by_cases h4:side=4
  ·subst h4;simp[dX,dY,hc]
  ·rw[aj (c:=cR w h c/\_) U];simp[h0,h1,h2,h3,h4]
 ·rw[ah (by rw[Ey];exact hc),aj (λh=>hc h.1)]
theorem Wo (w h c side:Int):zQ.f w h c side=some (bj w h c side):=by
 unfold zQ.f bj;simp only[agR,GJ,aM]
 by_cases hc:cR w h c
 ·have hp:=ve hc;obtain⟨q1,q2,q3,q4⟩:=hc.1;have bI: ¬w=0:=U
  by_cases hs:0<=side/\side<=4
  ·have e1:af (c/w-1)=c/w-1:=bc U U;have e2:af (c/w+1)=c/w+1:=bc U U;have e3:af (c%w-1)=c%w-1:=bc U U;have e4:af (c%w+1)=c%w+1:=bc U U;have e5:af (c/w)=c/w:=bc U U;have e6:af (w-1)=w-1:=bc U U;have e7:af (h-1)=h-1:=bc U U;have fin: ∀x y:Int,-1<=x->x<=w-> -1<=y->y<=h->
    (if x<0∨w-1<x then some true else some (!decide (0<=y)||!decide (y<=h-1))).bind (λaO=>if aO=true then(some (-1)) else(some (af ((af (y*w))+x))))=some (oe w h x y):=by
    intro x y h1 h2 h3 h4;unfold oe
    by_cases hx:0<=x/\x<=w-1
    ·by_cases hy:0<=y/\y<=h-1
     ·have hl:=tm (w:=w) (h:=h) hx.1 U hy.1 U;have TQ:=pJ hc.1;have h5:0<=y*w:=nj hy.1 U;rw[ah (c:=iF w h/\_) ⟨hc.1,hx.1,by omega,hy.1,by omega⟩]
      rw[aj U,decide_eq_true hy.1,decide_eq_true hy.2];simp only[aM,Bool.not_true,Bool.or_self,ji,if_false];rw[bc (x:=y*w) U U,bc U U]
     ·rw[aj (c:=iF w h/\_) U,aj U];have:(!decide (0<=y)||!decide (y<=h-1))=true:=by rw[<-Bool.not_and,<-Bool.decide_and];simp[hy]
      rw[this];rfl
    ·rw[aj (c:=iF w h/\_) U,ah U];rfl
   have e8:c/w-1=c/w+ -1:=U;have e9:c%w-1=c%w+ -1:=U;rw[ah (c:=cR w h c/\_) ⟨hc,hs⟩];simp only[decide_eq_true hc,decide_eq_true hs,Bool.not_true,ji,if_false,aM,pZ hc.2.1,mV hc.2.1,e5,e6,e7,e1,e4];have zt:side=0∨side=1∨side=2∨side=3∨side=4:=U;rcases zt with rfl |rfl |rfl |rfl |rfl
   ·have:=fin (c%w) (c/w-1) U U U U;simp only[e8] at this;simpa[bI,dX,dY,e8] using this
   ·have:=fin (c%w+1) (c/w) U U U U;simpa[bI,dX,dY] using this
   ·have:=fin (c%w) (c/w+1) U U U U;simpa[bI,dX,dY,e2] using this
   ·have:=fin (c%w-1) (c/w) U U U U;simp only[e9] at this;simpa[bI,dX,dY,e3,e9,show af (c%w+ -1)=c%w+ -1 by rw[<-e9];exact e3] using this
   ·have:=fin (c%w) (c/w) U U U U;simpa[bI,dX,dY] using this
  ·rw[aj (c:=cR w h c/\_) (λh=>hs h.2)];simp[hc,hs]
 ·rw[aj (c:=cR w h c/\_) (λh=>hc h.1)];simp[hc]
def EP (w h a b:Int):Nat->Int->Int
 |0,_=>5
 |n+1,s=>if bj w h a s=b then s else EP w h a b n (s+1)
def Df (w h a b:Int):Int:=if cR w h a/\cR w h b then EP w h a b 5 0 else 5
theorem ahA (w h a b:Int): ∀(n k:Nat) (s:Int),s+n=5->0<=s->n<k->qJ.l0 k w h a b s=some (EP w h a b n s):=by
 intro n
 induction n with
 |zero=>
  intro k s hs h0 hk;obtain⟨k,rfl⟩: ∃m,k=m+1:=⟨k-1,by omega⟩
  rw[qJ.l0,aj U];rfl
 |succ n ih=>
  intro k s hs h0 hk;obtain⟨k,rfl⟩: ∃m,k=m+1:=⟨k-1,by omega⟩
  rw[qJ.l0,ah U,EW];simp only[aM,EP]
  by_cases he:bj w h a s=b
  ·simp[he]
  ·rw[aj (by simpa using he),aj he,bc U U]
   exact ih k (s+1) U U U
theorem ahz (w h a b:Int):qJ.f w h a b=some (Df w h a b):=by
 unfold qJ.f Df;simp only[Um,aM]
 by_cases ha:cR w h a
 ·by_cases hb:cR w h b
  ·rw[ah (c:=cR w h a/\_) ⟨ha,hb⟩];simp only[decide_eq_true ha,decide_eq_true hb,Bool.not_true,ji,if_false,aM];exact ahA w h a b 5 fuel 0 U U (by rw[cY];omega)
  ·rw[aj (c:=cR w h a/\_) (λh=>hb h.2)];simp[ha,hb]
 ·rw[aj (c:=cR w h a/\_) (λh=>ha h.1)];simp[ha]
theorem L7 {w h c:Int} (hc:cR w h c):oe w h (c%w) (c/w)=c:=by
 have hp:=ve hc;unfold oe;rw[ah ⟨hc.1,hp⟩];have h1:=uy c w;rw[mv] at h1;omega
theorem aha {w h x y:Int} (hm:iF w h) (h1:0<=x) (h2:x<w) (h3:0<=y) (h4:y<h):cR w h (oe w h x y)/\oe w h x y%w=x/\oe w h x y/w=y:=by
 unfold oe;rw[ah ⟨hm,h1,h2,h3,h4⟩];have:=tm h1 h2 h3 h4;exact⟨⟨hm,this⟩,pL h1 h2⟩
theorem EU {w h c side:Int} (hc:cR w h c) (h0:0<=side) (h4:side<=4):
 (bj w h c side= -1/\ ¬(0<=c%w+dX side/\c%w+dX side<w/\0<=c/w+dY side/\c/w+dY side<h))∨
 (cR w h (bj w h c side)/\bj w h c side%w=c%w+dX side/\bj w h c side/w=c/w+dY side/\
   0<=c%w+dX side/\c%w+dX side<w/\0<=c/w+dY side/\c/w+dY side<h):=by
 have e:bj w h c side=oe w h (c%w+dX side) (c/w+dY side):=by unfold bj;rw[ah ⟨hc,h0,h4⟩]
 rw[e]
 by_cases hx:0<=c%w+dX side/\c%w+dX side<w/\0<=c/w+dY side/\c/w+dY side<h
 ·obtain⟨a,b,d,f⟩:=hx;have:=aha hc.1 a b d f;exact .inr ⟨this.1,this.2.1,this.2.2,a,b,d,f⟩
 ·refine .inl ⟨?_,hx⟩;unfold oe;rw[aj (λh=>hx h.2)]
theorem ahy (w h a b:Int): ∀(n:Nat) (s t:Int),s+n=5->s<=t->t<5->bj w h a t=b->(∀u,s<=u->u<t->bj w h a u≠b)->EP w h a b n s=t:=by
 intro n
 induction n with
 |zero=>intro s t h1 h2 h3;omega
 |succ n ih=>
  intro s t h1 h2 h3 h4 h5;simp only[EP]
  by_cases he:s=t
  ·subst he;rw[ah h4]
  ·rw[aj (h5 s U U)];exact ih (s+1) t U U h3 h4 (λu hu=>h5 u U)
theorem ahV {w h c s t:Int} (hc:cR w h c) (s0:0<=s) (s4:s<=4) (t0:0<=t) (t4:t<=4) (hs:cR w h (bj w h c s)) (he:bj w h c t=bj w h c s):s=t:=by
 have zt:s=0∨s=1∨s=2∨s=3∨s=4:=U;have qn:t=0∨t=1∨t=2∨t=3∨t=4:=U;rcases EU hc s0 s4 with⟨h1,_⟩ |⟨_,b1,b2,_⟩
 ·rw[h1] at hs;obtain⟨_,h2,_⟩:=hs;omega
 ·rcases EU hc t0 t4 with⟨h1,_⟩ |⟨_,d1,d2,_⟩
  ·rw[he] at h1;rw[h1] at hs;obtain⟨_,h2,_⟩:=hs;omega
  ·rw[he,b1] at d1;rw[he,b2] at d2;unfold dX at d1;unfold dY at d2;rcases zt with rfl |rfl |rfl |rfl |rfl<;>rcases qn with rfl |rfl |rfl |rfl |rfl<;>simp at d1 d2⊢ <;>omega
theorem Ph {w h c s:Int} (hc:cR w h c) (s0:0<=s) (s4:s<=4) (hs:cR w h (bj w h c s)):Df w h c (bj w h c s)=s:=by
 unfold Df;rw[ah ⟨hc,hs⟩];exact ahy w h c _ 5 0 s U s0 U J (λu h1 h2 he=>by
  have:=ahV hc s0 s4 h1 U hs he;omega)
theorem ahU {w h c:Int} (hc:cR w h c):bj w h c 4=c:=by
 unfold bj;rw[ah ⟨hc,by omega,by omega⟩]
 simpa[dX,dY] using L7 hc
def Ok {α:Type} (o:Option α) (P:α->Prop):Prop:= ∃r,o=some r/\P r
section
variable {α β : Type} {o : Option α} {f : α -> Option β} {P : α -> Prop} {Q : β -> Prop} {a b : Option α} {c : Prop} [Decidable c]
theorem Ok.bind (h:Ok o P) (k: ∀r,P r->Ok (f r) Q):Ok (o.bind f) Q:=by
 obtain⟨r,rfl,hr⟩:=h;exact k r hr
theorem Ok.bind' {γ:Type} {g:α->γ} {k:γ->Option β} (h:Ok o P) (q: ∀r,P r->Ok (k (g r)) Q):Ok ((o.bind λr=>some (g r)).bind k) Q:=by
 obtain⟨r,rfl,hr⟩:=h;exact q r hr
theorem Ok.eq {v:α} (e:o=some v) (k:Ok (f v) Q):Ok (o.bind f) Q:=by subst e;exact k
theorem Ok.opt {x:α} {d:Option β} (h:Ok (f x) Q):Ok (dF (some x) d f) Q:=h
theorem Ok.Vf {d:Option β} (h:Ok d Q):Ok (dF none d f) Q:=h
theorem Ok.pure {r:α} (h:P r):Ok (some r) P:=⟨r,J,h⟩
theorem Ok.ite (h1:c->Ok a P) (h2: ¬c->Ok b P):Ok (if c then a else b) P:=by
 split
 ·exact h1 ‹_›
 ·exact h2 ‹_›
theorem Ok.br (hc:c) (h:Ok a P):Ok (if c then a else none) P:=by rw[ah hc];exact h
theorem Ok.pos (hc:c) (h:Ok a P):Ok (if c then a else b) P:=by rw[ah hc];exact h
theorem Ok.neg (hc: ¬c) (h:Ok b P):Ok (if c then a else b) P:=by rw[aj hc];exact h
theorem Ok.mono {P':α->Prop} (h:Ok o P) (k: ∀r,P r->P' r):Ok o P':=by
 obtain⟨r,e,hr⟩:=h;exact⟨r,e,k r hr⟩
theorem Ok.of {r:α} (e:o=some r) (h:P r):Ok o P:=⟨r,e,h⟩
end
theorem wi {x:Int} (h1: -9223372036854775808<=x) (h2:x<=9223372036854775807):af x=x:=bc h1 h2
theorem G6 {α:Type} [Inhabited α] {l:List α} {e:α}:e∈l↔ ∃c:Int,0<=c/\c<l.length/\rd l c=e:=by
 constructor
 ·intro h;obtain⟨i,hi,rfl⟩:=List.getElem_of_mem h;exact⟨i,by omega,by omega,by rw[iP (by simpa using hi)];simp⟩
 ·rintro⟨c,h0,h1,rfl⟩;exact sG h0 h1
theorem Pt {α:Type} [Inhabited α] {l:List α} {i j:Int} (i0:0<=i) (i1:i<l.length) (j0:0<=j) (j1:j<l.length) (e:α):
 e∈aD (aD l i.toNat (rd l j)) j.toNat (rd l i)↔e∈l:=by
 rw[G6,G6];have h: ∀c:Int,0<=c->rd (aD (aD l i.toNat (rd l j)) j.toNat (rd l i)) c=if c=j then rd l i else if c=i then rd l j else rd l c:=by
  intro c c0;rw[A9 j0 (by simpa using j1) c0,A9 i0 i1 c0]
 simp only[nF];constructor
 ·rintro⟨c,c0,c1,rfl⟩;rw[h c c0];split
  ·exact⟨i,i0,i1,J⟩
  ·split
   ·exact⟨j,j0,j1,J⟩
   ·exact⟨c,c0,c1,J⟩
 ·rintro⟨c,c0,c1,rfl⟩
  by_cases a:c=i
  ·exact⟨j,j0,j1,by rw[h j j0,ah J,a]⟩
  ·by_cases b:c=j
   ·refine⟨i,i0,i1,?_⟩;rw[h i i0];subst b;rw[aj U,ah J]
   ·exact⟨c,c0,c1,by rw[h c c0,aj b,aj a]⟩
def hd (l:List Int) (q:Int):Int:=match l with |[]=>q |c::_=>c
def jn (l:List Int) (p:Int):Int:=match l with |[]=>p |c::r=>jn r c
def p8 (s:List bq) (p:Int) (l:List Int) (q:Int):Prop:=match l with
 |[]=>True
 |c::r=>(rd s c).cQ=p/\(rd s c).ba=hd r q/\p8 s c r q
theorem Pe {s:List bq}: ∀(A:List Int) (p:Int) (B:List Int) (q:Int),p8 s p (A++B) q↔p8 s p A (hd B q)/\p8 s (jn A p) B q
 |[],p,B,q=>by simp[p8,jn]
 |c::r,p,B,q=>by
  have e:hd (r++B) q=hd r (hd B q):=by cases r<;>rfl
  simp only[List.cons_append,p8,jn,Pe r c B q,e];exact⟨λ⟨a,b,c,d⟩=>⟨⟨a,b,c⟩,d⟩,λ⟨⟨a,b,c⟩,d⟩=>⟨a,b,c,d⟩⟩
theorem EN {s s':List bq}: ∀(A:List Int) (p q:Int),(∀c∈A,(rd s' c).cQ=(rd s c).cQ/\(rd s' c).ba=(rd s c).ba)->p8 s p A q->p8 s' p A q
 |[],_,_,_,_=>trivial
 |c::r,p,q,h,hs=>by
  have:=h c (na ..);exact⟨this.1.trans hs.1,this.2.trans hs.2.1,EN r c q (λd hd=>h d (pj _ hd)) hs.2.2⟩
theorem GW: ∀(A:List Int) (p:Int),A≠[]->jn A p∈A
 |[],_,h=>absurd J h
 |[c],_,_=>na ..
 |c::d::r,p,_=>pj _ (GW (d::r) c bd)
theorem Oj: ∀(A:List Int) (p:Int) (B:List Int),jn (A++B) p=jn B (jn A p)
 |[],_,_=>rfl
 |c::r,p,B=>by simp only[List.cons_append,jn];exact Oj r c B
theorem WB {s s':List bq}: ∀(A:List Int) (p q q':Int),A≠[]->A.Nodup->(∀c∈A,(rd s' c).cQ=(rd s c).cQ/\(c≠jn A p->(rd s' c).ba=(rd s c).ba))->(rd s' (jn A p)).ba=q'->p8 s p A q->p8 s' p A q'
 |[],_,_,_,h,_,_,_,_=>absurd J h
 |[c],p,q,q',_,_,h,e,hs=>⟨(h c (na ..)).1.trans hs.1,e,trivial⟩
 |c::d::r,p,q,q',_,hn,h,e,hs=>by
  have ja:c≠jn (d::r) c:=λz=>(List.nodup_cons.1 hn).1 (z▸GW (d::r) c bd);have:=h c (na ..);exact⟨this.1.trans hs.1,(this.2 ja).trans hs.2.1,WB (d::r) c q q' bd (List.nodup_cons.1 hn).2 (λx hx=>h x (pj _ hx)) e hs.2.2⟩
theorem WA {s s':List bq}: ∀(A:List Int) (p p' q:Int),(∀c∈A,(rd s' c).ba=(rd s c).ba/\(c≠hd A q->(rd s' c).cQ=(rd s c).cQ))->A.Nodup->(A≠[]->(rd s' (hd A q)).cQ=p')->p8 s p A q->p8 s' p' A q
 |[],_,_,_,_,_,_,_=>trivial
 |c::r,p,p',q,h,hn,e,hs=>by
  refine⟨e bd,(h c (na ..)).1.trans hs.2.1,EN r c q (λd iA=>?_) hs.2.2⟩;have:=h d (pj _ iA);exact⟨this.2 λz=>(List.nodup_cons.1 hn).1 (by have z:d=c:=z;rw[<-z];exact iA),this.1⟩
structure sU (l:gx) (k:Int) (ord:List Int):Prop where
 k_:l.k=k
 kb:1<=k/\k<=1000000
 mF:l.aw.length<=k
 nd:ord.Nodup
 mem: ∀c,c∈ord↔0<=c/\c<l.aw.length
 yu:p8 l.aw (-1) ord (-1)
 nw:l.cJ=hd ord (-1)
 ol:l.dr=jn ord (-1)
 sn:(l.fj.map (·.1)).Nodup
 sl: ∀key c,dR l.fj key=some c↔0<=c/\c<l.aw.length/\(rd l.aw c).key=key
structure Av (l:gx) (ord:List Int):Prop where
 nd:ord.Nodup
 mem: ∀c∈ord,0<=c/\c<l.aw.length
 yu:p8 l.aw (-1) ord (-1)
 nw:l.cJ=hd ord (-1)
 ol:l.dr=jn ord (-1)
theorem ae1 {k:Int} (h1:1<=k) (h2:k<=1000000): ∃l,xU.f k=some (some l)/\sU l k []:=by
 unfold xU.f zF.f;rw[aj U];exact⟨_,J,J,⟨h1,h2⟩,by simp;omega,List.nodup_nil,λc=>by simp,trivial,J,J,List.nodup_nil,λkey c=>by simp[dR];omega⟩
theorem aar {l:gx} {k:Int} {ord:List Int} (h:sU l k ord): ∃l',zG.f l=some l'/\sU l' k []:=
 ⟨_,J,h.k_,h.kb,by have:=h.kb;simp;omega,List.nodup_nil,λc=>by simp,trivial,J,J,List.nodup_nil,λkey c=>by simp[dR];omega⟩
theorem OA {A B:List Int} {c:Int} (h:(A++c::B).Nodup):c∉A/\c∉B/\(A++B).Nodup:=by
 rw[List.nodup_append] at h⊢;obtain⟨h1,h2,h3⟩:=h;obtain⟨h4,h5⟩:=List.nodup_cons.1 h2;exact⟨λz=>h3 c z c (na ..) J,h4,h1,h5,λa ha b hb=>h3 a ha b (pj _ hb)⟩
theorem W8 {l:gx} {A B:List Int} {c:Int} (h:Av l (A++c::B)): ∃l',tI.f l c=some l'/\l'.k=l.k/\l'.fj=l.fj/\l'.aw.length=l.aw.length/\(∀d:Int,0<=d->(rd l'.aw d).key=(rd l.aw d).key)/\Av l' (A++B):=by
 obtain⟨n1,n2,n3⟩:=OA h.nd;have hc:=h.mem c bd;obtain⟨g1,g2,g3,g4⟩:=(Pe A (-1) (c::B) (-1)).1 h.yu;simp only[hd] at g1;obtain⟨nA,nB,UW⟩:=List.nodup_append.1 n3;have hA:A≠[]->0<=jn A (-1)/\jn A (-1)<l.aw.length:=λz=>h.mem _ (List.mem_append_left _ (GW A _ z));have hB:B≠[]->0<=hd B (-1)/\hd B (-1)<l.aw.length/\hd B (-1)∈B:=λz=>by
  cases B with
  |nil=>exact absurd J z
  |cons d r=>have:=h.mem d bd;exact⟨this.1,this.2,na ..⟩
 unfold tI.f;rw[ah hc];have s1: ∃S N,(if((rd l.aw c).cQ==(-1))=true then(some (l.aw,(rd l.aw c).ba)) else(if(0<=(rd l.aw c).cQ/\(rd l.aw c).cQ<(aa l.aw:Int)) then(some ((aD l.aw (ax ((rd l.aw c).cQ)) (bq.mk ((rd l.aw ((rd l.aw c).cQ)).key) ((rd l.aw ((rd l.aw c).cQ)).cQ) ((rd l.aw c).ba))),l.cJ)) else none))=some (S,N)/\S.length=l.aw.length/\(∀d:Int,0<=d->(rd S d).key=(rd l.aw d).key/\(d∉A->rd S d=rd l.aw d))/\p8 S (-1) A (hd B (-1))/\N=hd (A++B) (-1):=by
  rw[g2,g3]
  by_cases z:A=[]
  ·subst z;rw[ah (by simp[jn])]
   exact⟨_,_,J,J,λd _=>⟨J,λ_=>rfl⟩,trivial,J⟩
  ·have ha:=hA z;have dV: ∀d:Int,0<=d->rd (aD l.aw (jn A (-1)).toNat (bq.mk (rd l.aw (jn A (-1))).key (rd l.aw (jn A (-1))).cQ (hd B (-1)))) d=if d=jn A (-1) then bq.mk (rd l.aw (jn A (-1))).key (rd l.aw (jn A (-1))).cQ (hd B (-1)) else rd l.aw d:=λd d0=>mh ha.1 ha.2 d0
   rw[aj bo,ah ha];refine⟨_,_,J,by simp,λd d0=>?_,WB A (-1) c _ z nA (λd iA=>?_) ?_ g1,?_⟩
   ·rw[dV d d0];refine⟨?_,λiA=>?_⟩
    ·split
     ·rename_i q;rw[q]
     ·rfl
    ·rw[aj];rintro rfl;exact iA (GW A _ z)
   ·have:=h.mem d (List.mem_append_left _ iA);rw[dV d this.1];refine⟨?_,λq=>by rw[aj q]⟩
    split
    ·rename_i q;rw[q]
    ·rfl
   ·rw[dV _ ha.1,ah J]
   ·rw[h.nw];cases A with
    |nil=>exact absurd J z
    |cons a A=>rfl
 obtain⟨S,N,e,zl,D6,Se,hN⟩:=s1;rw[e];simp only[aM];have hSB:p8 S c B (-1):=EN B c (-1) (λd iA=>by
  have:=h.mem d (List.mem_append_right _ (pj _ iA));rw[(D6 d this.1).2 λq=>UW d q d iA J];exact⟨J,J⟩) g4
 rw[g2,g3]
 by_cases z:B=[]
 ·subst z;rw[ah (by simp[hd])]
  refine⟨_,J,J,J,zl,λd d0=>(D6 d d0).1,n3,λd iA=>?_,?_,hN,?_⟩
  ·rw[zl];exact h.mem d (by simp at iA;simp[iA])
  ·rw[sY];exact Se
  ·rw[sY]
 ·have hb:=hB z;have dV: ∀d:Int,0<=d->rd (aD S (hd B (-1)).toNat (bq.mk (rd S (hd B (-1))).key (jn A (-1)) (rd S (hd B (-1))).ba)) d=if d=hd B (-1) then bq.mk (rd S (hd B (-1))).key (jn A (-1)) (rd S (hd B (-1))).ba else rd S d:=λd d0=>mh hb.1 (by rw[zl];exact hb.2.1) d0
  rw[aj bo,ah (by rw[zl];exact⟨hb.1,hb.2.1⟩)]
  refine⟨_,J,J,J,by simpa using zl,λd d0=>?_,n3,λd iA=>?_,?_,hN,?_⟩
  ·rw[<-(D6 d d0).1];simp only;rw[dV d d0];split
   ·rename_i q;rw[q]
   ·rfl
  ·simp only[nF];rw[zl];refine h.mem d ?_;rcases List.mem_append.1 iA with q |q
   ·exact List.mem_append_left _ q
   ·exact List.mem_append_right _ (pj _ q)
  ·refine(Pe A (-1) B (-1)).2 ⟨EN A (-1) _ (λd iA=>?_) Se,WA B c (jn A (-1)) (-1) (λd iA=>?_) nB (λ_=>?_) hSB⟩
   ·have:=h.mem d (List.mem_append_left _ iA);rw[dV d this.1,aj (λq=>UW d iA (hd B (-1)) hb.2.2 q)];exact⟨J,J⟩
   ·have:=h.mem d (List.mem_append_right _ (pj _ iA));rw[dV d this.1];refine⟨?_,λq=>by rw[aj q]⟩
    split
    ·rename_i q;rw[q]
    ·rfl
   ·rw[dV _ hb.1,ah J]
  ·simp only;rw[h.ol,Oj,Oj]
   cases B with
   |nil=>exact absurd J z
   |cons d r=>rfl
theorem Oe {l:gx} {ord:List Int} {c:Int} (h:Av l ord) (h0:0<=c) (h1:c<l.aw.length) (hc:c∉ord): ∃l',xS.f l c=some l'/\l'.k=l.k/\l'.fj=l.fj/\l'.aw.length=l.aw.length/\(∀d:Int,0<=d->(rd l'.aw d).key=(rd l.aw d).key)/\Av l' (c::ord):=by
 unfold xS.f;generalize zl:aD l.aw (ax c) (bq.mk ((rd l.aw c).key) (-1) ((rd l.aw c).ba))=S1;have uY:S1.length=l.aw.length:=by rw[<-zl];simp
 have r1: ∀d:Int,0<=d->rd S1 d=if d=c then bq.mk ((rd l.aw c).key) (-1) ((rd l.aw c).ba) else rd l.aw d:=λd d0=>by rw[<-zl];exact mh h0 h1 d0
 generalize D6:aD S1 (ax c) (bq.mk ((rd S1 c).key) ((rd S1 c).cQ) l.cJ)=S2;have uZ:S2.length=l.aw.length:=by rw[<-D6];simpa using uY
 have r2: ∀d:Int,0<=d->rd S2 d=if d=c then bq.mk ((rd l.aw c).key) (-1) l.cJ else rd l.aw d:=λd d0=>by
  rw[<-D6,mh h0 U d0,r1 c h0,ah J];split
  ·rfl
  ·rename_i q;rw[r1 d d0,aj q]
 rw[ah ⟨h0,h1⟩,ah ⟨h0,by omega⟩]
 have TI: ∀d:Int,0<=d->(rd S2 d).key=(rd l.aw d).key:=λd d0=>by
  rw[r2 d d0];split
  ·rename_i q;rw[q]
  ·rfl
 have tD:(c::ord).Nodup:=List.nodup_cons.2 ⟨hc,h.nd⟩
 by_cases z:ord=[]
 ·subst z;have hn:l.cJ= -1:=h.nw;rw[ah (by simp[hn])]
  refine⟨_,J,J,J,uZ,TI,tD,λd iA=>?_,⟨?_,?_,trivial⟩,J,J⟩
  ·simp only[nG,rR,or_false] at iA;subst iA;simp only;omega
  ·simp only;rw[r2 c h0,ah J]
  ·simp only;rw[r2 c h0,ah J,hn];rfl
 ·obtain⟨a,r,e⟩:=List.exists_cons_of_ne_nil z;have hn:l.cJ=a:=by rw[h.nw,e];rfl
  have ha:=h.mem a (by rw[e];exact na ..)
  have MQ:a≠c:=λq=>hc (by rw[e,<-q];exact na ..)
  rw[hn] at r2⊢;rw[aj bo,ah (by rw[uZ];exact ha)]
  have r3: ∀d:Int,0<=d->rd (aD S2 a.toNat (bq.mk (rd S2 a).key c (rd S2 a).ba)) d=if d=a then bq.mk (rd S2 a).key c (rd S2 a).ba else rd S2 d:=λd d0=>mh ha.1 (by rw[uZ];exact ha.2) d0
  refine⟨_,J,J,J,by simpa using uZ,λd d0=>?_,tD,λd iA=>?_,⟨?_,?_,?_⟩,J,?_⟩
  ·rw[<-TI d d0];simp only;rw[r3 d d0];split
   ·rename_i q;rw[q]
   ·rfl
  ·simp only[nF];rw[uZ];rcases List.mem_cons.1 iA with rfl |q
   ·exact⟨h0,h1⟩
   ·exact h.mem d q
  ·simp only;rw[r3 c h0,aj MQ.symm,r2 c h0,ah J]
  ·simp only;rw[r3 c h0,aj MQ.symm,r2 c h0,ah J,e];rfl
  ·refine WA ord (-1) c (-1) (λd iA=>?_) h.nd (λ_=>?_) h.yu
   ·have:=h.mem d iA;have JQ:d≠c:=λq=>hc (q▸iA);rw[r3 d this.1];refine⟨?_,λq=>?_⟩
    ·split
     ·rename_i q;rw[q,r2 a ha.1,aj MQ]
     ·rw[r2 d this.1,aj JQ]
    ·rw[e] at q;simp only[hd] at q;rw[aj q,r2 d this.1,aj JQ]
   ·rw[e];simp only[hd];rw[r3 a ha.1,ah J]
  ·simp only;rw[h.ol,e];rfl
theorem sU.UN {l:gx} {k:Int} {ord:List Int} (h:sU l k ord):Av l ord:=⟨h.nd,λc hc=>(h.mem c).1 hc,h.yu,h.nw,h.ol⟩
theorem ah9 {l:gx} {k:Int} {ord:List Int} (h:sU l k ord) (a b:Int):Ok (xR.f l a b) (λr=> ∃A B,sU r.2.2.2 k (r.1::(A++B))/\
 ((r.2.1=true/\r.2.2.1=false/\dR l.fj (a,b)=some r.1/\ord=A++r.1::B/\r.2.2.2.aw.length=l.aw.length/\ ∀d:Int,0<=d->(rd r.2.2.2.aw d).key=(rd l.aw d).key)∨
  (r.2.1=false/\r.2.2.1=false/\dR l.fj (a,b)=none/\ord=A++B/\r.1=l.aw.length/\r.2.2.2.aw.length=l.aw.length+1/\(∀d:Int,0<=d->d<l.aw.length->(rd r.2.2.2.aw d).key=(rd l.aw d).key)/\(rd r.2.2.2.aw r.1).key=(a,b))∨
  (r.2.1=false/\r.2.2.1=true/\dR l.fj (a,b)=none/\ord=A++r.1::B/\B=[]/\(l.aw.length:Int)=k/\r.2.2.2.aw.length=l.aw.length/\(∀d:Int,0<=d->d≠r.1->(rd r.2.2.2.aw d).key=(rd l.aw d).key)/\(rd r.2.2.2.aw r.1).key=(a,b)))):=by
 have JW:=h.kb;have Gq:=h.mF;unfold xR.f
 cases hg:dR l.fj (a,b) with
 |some c=>
  have hm:cj l.fj (a,b)=true:=by unfold cj;rw[hg];rfl
  have hv:aT l.fj (a,b)=c:=by unfold aT;rw[hg];rfl
  obtain⟨c0,c1,c2⟩:=(h.sl (a,b) c).1 hg;obtain⟨A,B,Jy⟩:=List.append_of_mem ((h.mem c).2 ⟨c0,c1⟩);obtain⟨l1,e1,k1,HM,n1,Ks,u_⟩:=W8 (A:=A) (B:=B) (c:=c) (Jy▸h.UN);rw[hm,hv,ah J,e1];simp only[aM];have tD:=h.nd;rw[Jy] at tD;obtain⟨nA,nB,_⟩:=OA tD;have GQ:Av ⟨l1.k,l1.aw,cO l1.fj (a,b) c,l1.cJ,l1.dr⟩ (A++B):=⟨u_.nd,u_.mem,u_.yu,u_.nw,u_.ol⟩;obtain⟨l2,e2,k2,wP,n2,pI,sw⟩:=Oe (c:=c) GQ c0 (by simp only;omega) (by simp[nA,nB])
  rw[e2];simp only at k2 wP n2 pI;have ko: ∀d:Int,0<=d->(rd l2.aw d).key=(rd l.aw d).key:=λd d0=>(pI d d0).trans (Ks d d0);refine Ok.pure ⟨A,B,⟨by simp only;rw[k2,k1];exact h.k_,JW,by simp only;omega,sw.nd,λd=>?_,sw.yu,sw.nw,sw.ol,?_,λkey d=>?_⟩,.inl ⟨J,J,J,Jy,by simp only;omega,ko⟩⟩
  ·have:=h.mem d;rw[Jy] at this;simp only[n2,n1,nG,List.mem_append] at this⊢;rw[<-this];constructor
   ·rintro(q |q |q)
    ·exact .inr (.inl q)
    ·exact .inl q
    ·exact .inr (.inr q)
   ·rintro(q |q |q)
    ·exact .inr (.inl q)
    ·exact .inl q
    ·exact .inr (.inr q)
  ·simp only;rw[wP,HM];exact Om h.sn _ _
  ·simp only;rw[wP,HM,Et,n2,n1]
   by_cases q:(a,b)=key
   ·rw[ah q,<-q];constructor
    ·intro w;simp only[Option.some.injEq] at w;subst w;exact⟨c0,c1,by rw[ko c c0];exact c2⟩
    ·rintro⟨w0,w1,w2⟩;rw[ko d w0] at w2;rw[<-hg];exact(h.sl _ _).2 ⟨w0,w1,w2⟩
   ·rw[aj q,h.sl key d];exact⟨λ⟨w0,w1,w2⟩=>⟨w0,w1,by rw[ko d w0];exact w2⟩,λ⟨w0,w1,w2⟩=>⟨w0,w1,by rw[ko d w0] at w2;exact w2⟩⟩
 |none=>
  have hm:cj l.fj (a,b)=false:=by unfold cj;rw[hg];rfl
  have oQ: ∀d:Int,0<=d->d<l.aw.length->(rd l.aw d).key≠(a,b):=λd d0 d1 e=>by
   have:=(h.sl (a,b) d).2 ⟨d0,d1,e⟩;rw[hg] at this;simp at this
  rw[hm,aj bd]
  by_cases aS:(l.aw.length:Int)<l.k
  ·rw[h.k_] at aS;rw[h.k_,ah aS,ah U];simp only[aM];have Gz: ∀d:Int,0<=d->d<l.aw.length->rd (l.aw++[bq.mk (a,b) 0 0]) d=rd l.aw d:=λd d0 d1=>vf d0 d1
   have Ek:rd (l.aw++[bq.mk (a,b) 0 0]) (l.aw.length:Int)=bq.mk (a,b) 0 0:=by rw[Hu U (dP _),ah J]
   have GQ:Av ⟨k,l.aw++[bq.mk (a,b) 0 0],cO l.fj (a,b) (l.aw.length:Int),l.cJ,l.dr⟩ ord:=
    ⟨h.nd,λc hc=>by have:=(h.mem c).1 hc;simp;omega,EN ord _ _ (λc hc=>by have:=(h.mem c).1 hc;simp only;rw[Gz c this.1 this.2];exact⟨J,J⟩) h.yu,h.nw,h.ol⟩
   have ja:(l.aw.length:Int)∉ord:=λz=>by have:=(h.mem _).1 z;omega
   obtain⟨l2,e2,k2,wP,n2,pI,sw⟩:=Oe (c:=(l.aw.length:Int)) GQ U bo ja;rw[e2];simp only[yS,uA,List.length_nil] at k2 wP n2 pI;refine Ok.pure ⟨[],ord,⟨k2,JW,by simp only;omega,sw.nd,λd=>?_,sw.yu,sw.nw,sw.ol,?_,λkey d=>?_⟩,.inr (.inl ⟨J,J,by first |rfl |trivial,J,J,by simp only;omega,λd d0 d1=>?_,?_⟩)⟩
   ·simp only[List.nil_append,nG,n2];rw[h.mem d];omega
   ·simp only;rw[wP];exact Om h.sn _ _
   ·simp only;rw[wP,Et,n2]
    by_cases q:(a,b)=key
    ·rw[ah q,<-q];constructor
     ·intro w;simp only[Option.some.injEq] at w;subst w;exact⟨by omega,by omega,by rw[pI _ U,Ek]⟩
     ·rintro⟨w0,w1,w2⟩
      by_cases y:d=l.aw.length
      ·rw[y]
      ·rw[pI d w0,Gz d w0 U] at w2;exact absurd w2 (oQ d w0 U)
    ·rw[aj q,h.sl key d];constructor
     ·rintro⟨w0,w1,w2⟩;exact⟨w0,by omega,by rw[pI d w0,Gz d w0 w1];exact w2⟩
     ·rintro⟨w0,w1,w2⟩
      by_cases y:d=l.aw.length
      ·rw[y,pI _ U,Ek] at w2;exact absurd w2 q
      ·rw[pI d w0,Gz d w0 U] at w2;exact⟨w0,by omega,w2⟩
   ·simp only;rw[pI d d0,Gz d d0 d1]
   ·simp only;rw[pI _ U,Ek]
  ·rw[h.k_] at aS;rw[h.k_,aj aS];have bI:ord≠[]:=λz=>by have:=(h.mem 0).2 U;rw[z] at this;simp at this
   have hlm:=GW ord (-1) bI;have si:=(h.mem _).1 hlm;obtain⟨A,hA⟩: ∃A,ord=A++jn ord (-1)::[]:=by
    refine⟨ord.dropLast,?_⟩;have:jn ord (-1)=ord.getLast bI:=by
     have: ∀(L:List Int) (p:Int) (hL:L≠[]),jn L p=L.getLast hL:=by
      intro L
      induction L with
      |nil=>intro p hL;exact absurd J hL
      |cons c r ih=>
       intro p hL
       cases r with
       |nil=>rfl
       |cons d r=>rw[List.getLast_cons bd];exact ih c bd
     exact this ord (-1) bI
    rw[this,List.dropLast_concat_getLast]
   rw[<-h.ol] at hA si;generalize hc:l.dr=c at*;obtain⟨l1,e1,k1,HM,n1,Ks,u_⟩:=W8 (A:=A) (B:=[]) (c:=c) (hA▸h.UN);rw[e1];simp only[aM];rw[ah U];simp only[aM];have hck:((rd l1.aw c).key.1,(rd l1.aw c).key.2)=(rd l.aw c).key:=by rw[Ks c si.1]
   rw[hck];have hr: ∀d:Int,0<=d->rd (aD l1.aw c.toNat (bq.mk (a,b) (rd l1.aw c).cQ (rd l1.aw c).ba)) d=if d=c then bq.mk (a,b) (rd l1.aw c).cQ (rd l1.aw c).ba else rd l1.aw d:=λd d0=>mh si.1 U d0
   have tD:=h.nd;rw[hA] at tD;obtain⟨nA,nB,_⟩:=OA tD;have GQ:Av ⟨l1.k,aD l1.aw c.toNat (bq.mk (a,b) (rd l1.aw c).cQ (rd l1.aw c).ba),cO (fU l1.fj (rd l.aw c).key) (a,b) c,l1.cJ,l1.dr⟩ (A++[]):=
    ⟨u_.nd,λd iA=>by simp only[nF];exact u_.mem d iA,EN _ _ _ (λd iA=>by
      have:=u_.mem d iA;simp only;rw[hr d this.1,aj (λq=>nA (by rw[<-q];simpa using iA))];exact⟨J,J⟩) u_.yu,u_.nw,u_.ol⟩
   obtain⟨l2,e2,k2,wP,n2,pI,sw⟩:=Oe (c:=c) GQ si.1 bo (by simpa using nA)
   rw[e2];simp only[nF] at k2 wP n2 pI;have ko: ∀d:Int,0<=d->d≠c->(rd l2.aw d).key=(rd l.aw d).key:=λd d0 JQ=>by rw[pI d d0,hr d d0,aj JQ,Ks d d0]
   have JX:(rd l2.aw c).key=(a,b):=by rw[pI c si.1,hr c si.1,ah J]
   refine Ok.pure ⟨A,[],⟨by simp only;rw[k2,k1];exact h.k_,JW,by simp only;omega,sw.nd,λd=>?_,sw.yu,sw.nw,sw.ol,?_,λkey d=>?_⟩,.inr (.inr ⟨J,J,by first |rfl |trivial,hA,J,by omega,by simp only;omega,ko,JX⟩)⟩
   ·have:=h.mem d;rw[hA] at this;simp only[n2,n1,nG,List.mem_append,rR,or_false] at this⊢;rw[<-this];exact or_comm
   ·simp only;rw[wP,HM];exact Om (ae' h.sn _) _ _
   ·simp only;rw[wP,HM,Et,afc h.sn,n2,n1]
    by_cases q:(a,b)=key
    ·rw[ah q,<-q];constructor
     ·intro w;simp only[Option.some.injEq] at w;subst w;exact⟨si.1,si.2,JX⟩
     ·rintro⟨w0,w1,w2⟩
      by_cases y:d=c
      ·rw[y]
      ·rw[ko d w0 y] at w2;exact absurd w2 (oQ d w0 w1)
    ·rw[aj q]
     by_cases y:(rd l.aw c).key=key
     ·rw[ah y];constructor
      ·intro w;simp at w
      ·rintro⟨w0,w1,w2⟩
       by_cases x:d=c
       ·rw[x,JX] at w2;exact absurd w2 q
       ·rw[ko d w0 x] at w2;have a1:=(h.sl key d).2 ⟨w0,w1,w2⟩;have a2:=(h.sl key c).2 ⟨si.1,si.2,y⟩;rw[a1] at a2;simp only[Option.some.injEq] at a2;exact absurd a2 x
     ·rw[aj y,h.sl key d];constructor
      ·rintro⟨w0,w1,w2⟩;have x:d≠c:=λx=>y (by rw[<-x];exact w2)
       exact⟨w0,w1,by rw[ko d w0 x];exact w2⟩
      ·rintro⟨w0,w1,w2⟩;have x:d≠c:=λx=>q (by rw[x,JX] at w2;exact w2)
       exact⟨w0,w1,by rw[ko d w0 x] at w2;exact w2⟩
def rS (t:aF):Prop:=1<=t.W/\t.W<=16/\1<=t.H/\t.H<=16/\(t.C.length:Int)=t.W*t.H/\0∉t.C
instance (t:aF):Decidable (rS t):=by unfold rS;infer_instance
theorem ou {t:aF} (h:rS t):1<=t.C.length/\t.C.length<=256:=by
 obtain⟨a,b,c,d,e,_⟩:=h;have h1:t.W*t.H<=16*16:=kT U U b d;have h2:1*1<=t.W*t.H:=kT U U a c;omega
theorem K8 (t:aF) (hb:t.C.length<4611686018427387904):uk.f t=some (decide (rS t)):=by
 unfold uk.f Bv.f;simp only[aM]
 by_cases hw:1<=t.W/\t.W<=16
 ·by_cases hh:1<=t.H/\t.H<=16
  ·have h1:t.W*t.H<=16*16:=kT U U hw.2 hh.2;have h2:0<=t.W*t.H:=nj U U;rw[ah bo,ah bo,bc U U,Mb _ _ hb]
   by_cases hl:(t.C.length:Int)=t.W*t.H
   ·rw[ah (by simpa using hl)]
    simp only[aM]
    congr 1
    rw[nD];simp[rS,hw,hh,hl]
   ·rw[aj (by simpa using hl),decide_eq_false (λq=>hl q.2.2.2.2.1)];rfl
  ·rw[ah bo,aj bo,decide_eq_false (λq=>hh ⟨q.2.2.1,q.2.2.2.1⟩)];rfl
 ·rw[aj bo,decide_eq_false (λq=>hw ⟨q.1,q.2.1⟩)];rfl
def mw (t:aF):Prop:=rS t/\ ∀c:Int,0<=c->c<t.C.length->1<=rd t.C c/\rd t.C c<=255
theorem ah1 {t:aF} (h:mw t) (c:Int):Bu.f t c=some (if 0<=c/\c<t.C.length then rd t.C c else 0):=by
 have hl:=ou h.1;unfold Bu.f EZ.f;rw[K8 _ U,decide_eq_true h.1]
 by_cases a:0<=c
 ·by_cases b:c<t.C.length
  ·have:=h.2 c a b;rw[ah a,ah b,ah ⟨a,b⟩];simp only[aM,Bool.not_true,ji,if_false];rw[ah ⟨a,b⟩,wi U U]
  ·simp only[ah a,aj b,aj (show ¬(0<=c/\c<t.C.length) from λq=>b q.2)];rfl
 ·simp only[ge_iff_le,aj a,aj (show ¬(0<=c/\c<t.C.length) from λq=>a q.1)];rfl
def fi (w h c side:Int):Int:=if bj w h c side<0∨aQ w h (bj w h c side)=aQ w h c then-1 else bj w h c side
theorem Vk (w h c side:Int):zb.f w h c side=some (fi w h c side):=by
 unfold zb.f fi;rw[EW,aM]
 by_cases h1:bj w h c side<0
 ·rw[ah h1,ah (Or.inl h1)];rfl
 ·rw[aj h1,ru,aM,ru,aM]
  by_cases h2:aQ w h (bj w h c side)=aQ w h c
  ·rw[ah (Or.inr h2),h2];simp
  ·rw[aj (c:=_∨_) (λq=>q.elim h1 h2)];simp[h2]
theorem afZ {w h c side:Int} (hn: ¬(0<=side/\side<=3)):fi w h c side= -1:=by
 unfold fi
 by_cases hc:cR w h c
 ·by_cases h4:side=4
  ·subst h4;rw[ahU hc,ah (Or.inr rfl)]
  ·have:bj w h c side= -1:=by unfold bj;rw[aj U]
   rw[this,ah (Or.inl U)]
 ·have:bj w h c side= -1:=by unfold bj;rw[aj (λq=>hc q.1)]
  rw[this,ah (Or.inl U)]
theorem Hh {w h c side:Int} (h0:0<=fi w h c side):cR w h c/\0<=side/\side<=3/\cR w h (fi w h c side)/\fi w h c side=bj w h c side/\aQ w h (fi w h c side)≠aQ w h c:=by
 have Cr:0<=side/\side<=3:=by
  by_cases hs:0<=side/\side<=3
  ·exact hs
  ·rw[afZ hs] at h0;omega
 by_cases hq:bj w h c side<0∨aQ w h (bj w h c side)=aQ w h c
 ·unfold fi at h0;rw[ah hq] at h0;omega
 ·have e:fi w h c side=bj w h c side:=by unfold fi;rw[aj hq]
  have hc:cR w h c:=by
   by_cases hc:cR w h c
   ·exact hc
   ·have:bj w h c side= -1:=by unfold bj;rw[aj (λq=>hc q.1)]
    omega
  rcases EU hc Cr.1 (by omega:side<=4) with⟨h1,_⟩ |⟨h1,_⟩
  ·omega
  ·exact⟨hc,Cr.1,Cr.2,e▸h1,e,λq=>hq (.inr (e▸q))⟩
theorem F6 {w h s l:Int} (hs:bC w h s) (h0:0<=l) (h1:l<(ay w h s).1*(ay w h s).2):
 cR w h (cu w h s l)/\cu w h s l%w=16*(s%(bn w h).1)+l%(ay w h s).1/\cu w h s l/w=16*(s/(bn w h).1)+l/(ay w h s).1:=by
 obtain⟨a1,a2,a3,a4,a5,a6⟩:=vT hs h0 h1;have hp:=uf hs;have e:cu w h s l=(16*(s/(bn w h).1)+l/(ay w h s).1)*w+(16*(s%(bn w h).1)+l%(ay w h s).1):=by unfold cu;rw[ah ⟨hs,h0,h1⟩]
 have:=tm (h:=h) (x:=16*(s%(bn w h).1)+l%(ay w h s).1) (y:=16*(s/(bn w h).1)+l/(ay w h s).1) U a5 U a6;rw[e];exact⟨⟨ue hs,this⟩,pL U a5⟩
theorem WG {w h s:Int} (hs:bC w h s):(ay w h s).1=min 16 (w-16*(s%(bn w h).1))/\(ay w h s).2=min 16 (h-16*(s/(bn w h).1)):=by
 unfold ay;rw[ah hs];exact⟨J,J⟩
theorem EL {w h s l:Int} (hs:bC w h s) (h0:0<=l) (h1:l<(ay w h s).1*(ay w h s).2):aQ w h (cu w h s l)=s:=by
 obtain⟨hc,e1,e2⟩:=F6 hs h0 h1;obtain⟨a1,a2,a3,a4,a5,a6⟩:=vT hs h0 h1;obtain⟨z1,z2,z3,z4⟩:=pV hs;unfold aQ;rw[ah hc,e1,e2];have q1:(16*(s/(bn w h).1)+l/(ay w h s).1)/16=s/(bn w h).1:=U;have q2:(16*(s%(bn w h).1)+l%(ay w h s).1)/16=s%(bn w h).1:=U;rw[q1,q2];have:=uy s (bn w h).1;rw[mv] at this;exact this
def Bf (w h s side:Int):Prop:=if side=0 then 1<=s/(bn w h).1 else if side=1 then s%(bn w h).1+1<(bn w h).1 else if side=2 then s/(bn w h).1+1<(bn w h).2 else 1<=s%(bn w h).1
def vh (tw th l side:Int):Prop:=if side=0 then l/tw=0 else if side=1 then l%tw=tw-1 else if side=2 then l/tw=th-1 else l%tw=0
instance (w h s side:Int):Decidable (Bf w h s side):=by unfold Bf;infer_instance
instance (tw th l side:Int):Decidable (vh tw th l side):=by unfold vh;infer_instance
theorem KH {w h s l side:Int} (hs:bC w h s) (h0:0<=l) (h1:l<(ay w h s).1*(ay w h s).2) (s0:0<=side) (s3:side<=3):
 0<=fi w h (cu w h s l) side↔Bf w h s side/\vh (ay w h s).1 (ay w h s).2 l side:=by
 obtain⟨hc,e1,e2⟩:=F6 hs h0 h1;obtain⟨a1,a2,a3,a4,a5,a6⟩:=vT hs h0 h1;obtain⟨z1,z2,z3,z4⟩:=pV hs;obtain⟨y1,y2⟩:=WG hs;obtain⟨p1,p2,p3,p4⟩:=uf hs;have zu:=EL hs h0 h1;have hm:=ue hs;have eS:(bn w h).1=(w+15)/16/\(bn w h).2=(h+15)/16:=by unfold bn;rw[ah hm];exact⟨J,J⟩
 have zt:side=0∨side=1∨side=2∨side=3:=U;rcases EU hc s0 (by omega:side<=4) with⟨b1,b2⟩ |⟨b1,b2,b3,b4,b5,b6,b7⟩
 ·have:fi w h (cu w h s l) side= -1:=by unfold fi;rw[b1,ah (Or.inl U)]
  rw[this];refine⟨λq=>by omega,λq=>?_⟩
  exfalso;apply b2;rw[e1,e2];obtain⟨q1,q2⟩:=q;unfold Bf at q1;unfold vh at q2;unfold dX dY;rcases zt with rfl |rfl |rfl |rfl<;>simp at q1 q2⊢ <;>omega
 ·have b8: ¬bj w h (cu w h s l) side<0:=by have:=b1.2;omega
  have key:aQ w h (bj w h (cu w h s l) side)=s↔(16*(s/(bn w h).1)+l/(ay w h s).1+dY side)/16=s/(bn w h).1/\(16*(s%(bn w h).1)+l%(ay w h s).1+dX side)/16=s%(bn w h).1:=by
   have rf:=Dg b1;have u6:=pL (a:=(bn w h).1) (y:=bj w h (cu w h s l) side/w/16) rf.1 rf.2.1;have e:aQ w h (bj w h (cu w h s l) side)=bj w h (cu w h s l) side/w/16*(bn w h).1+bj w h (cu w h s l) side%w/16:=by unfold aQ;rw[ah b1]
   rw[<-e,b2,b3,e1,e2] at u6;constructor
   ·intro q;rw[q] at u6;exact⟨u6.2.symm,u6.1.symm⟩
   ·rintro⟨q1,q2⟩;rw[e,b2,b3,e1,e2,q1,q2];have:=uy s (bn w h).1;rw[mv] at this;exact this
  rw[e1] at b4 b5;rw[e2] at b6 b7;unfold fi;rw[zu]
  by_cases hq:aQ w h (bj w h (cu w h s l) side)=s
  ·rw[ah (Or.inr hq)];obtain⟨k1,k2⟩:=key.mp hq;refine⟨λq=>by omega,λq=>?_⟩
   exfalso;obtain⟨q1,q2⟩:=q;unfold Bf at q1;unfold vh at q2;unfold dX at k2;unfold dY at k1;rcases zt with rfl |rfl |rfl |rfl<;>simp at q1 q2 k1 k2<;>omega
  ·rw[aj (c:=_∨_) (λq=>q.elim b8 hq)];refine⟨λ_=>?_,λ_=>by omega⟩
   rw[key] at hq;unfold Bf vh;unfold dX at hq b4 b5;unfold dY at hq b6 b7;rcases zt with rfl |rfl |rfl |rfl<;>simp at hq b4 b5 b6 b7⊢ <;>omega
instance :DecidableEq aX:=λa b=>decidable_of_iff (a.Cell=b.Cell/\a.cH=b.cH/\a.Key=b.Key) (by obtain⟨a1,a2,a3⟩:=a;obtain⟨b1,b2,b3⟩:=b;simp)
theorem Pc (a b:aX):((a.Cell==b.Cell)&&((a.cH==b.cH)&&((a.Key==b.Key)&&true)))=decide (a=b):=by
 obtain⟨a1,a2,a3⟩:=a;obtain⟨b1,b2,b3⟩:=b;rw[nD];simp
theorem aay {R:aX->aX->Prop} (s:List aX) (hs:s.Pairwise R) (hb:s.length<=1000000) {x2:Int} (h2:1<=x2/\x2<s.length): ∀(n k:Nat) (x:List aX) (x8 x9:Int),(s.length-x2-x9).toNat<=n->n<k->x.length=s.length->
 1<=x8->x8<=x2+x9-1->1<=x9->x2+x9<=s.length->(∀c:Int,x2+x9-1<=c->c<s.length->rd x c=rd s c)->
 (∀i j:Int,0<=i->i<j->j<x8->R (rd x i) (rd x j))->(∀i c:Int,0<=i->i<x8->x2+x9<=c->c<s.length->R (rd x i) (rd s c))->
 (∀i:Int,0<=i->i<x8->rd x i∈s)->(∀c:Int,0<=c->c<x2+x9-> ∃i:Int,0<=i/\i<x8/\rd x i=rd s c)->
 Ok (jI.l1 k s x2 x x8 x9) (λr=>r.length<=s.length/\(∀e,e∈r↔e∈s)/\r.Pairwise R):=by
 intro n
 induction n with
 |zero=>
  intro k x x8 x9 hn hk hx h8 RZ h9 hle hc hR Gb bY tF;obtain⟨k,rfl⟩:=bz hk;have El:((aB x x2 (s.length:Int)).length:Int)=s.length-x2:=by rw[iQ U];omega
  rw[jI.l1,El,aj U,ah U];have e:(cx x (ax x8) (aa (aB x x8 (aa x:Int))) (ct (aa (aB x x8 (aa x:Int))) (default:aX)))=x.take x8.toNat++ct (x.length-x8.toNat) default:=by
   unfold cx;rw[iQ U,List.drop_of_length_le U];simp
  rw[e];have e2:aB (x.take x8.toNat++ct (x.length-x8.toNat) (default:aX)) 0 x8=x.take x8.toNat:=by
   unfold aB;simp only[Int.toNat_zero,List.drop_zero,Nat.sub_zero];rw[List.take_append_of_le_length bo,List.take_take];simp
  have hr: ∀i:Int,0<=i->i<x8->rd (x.take x8.toNat) i=rd x i:=λi i0 i1=>by
   rw[iP (xs:=List.take _ _) bo,List.getElem_take,iP U]
  have hl:(x.take x8.toNat).length=x8.toNat:=by simp;omega
  refine Ok.br bo ?_;rw[e2];refine Ok.pure ⟨by omega,λy=>⟨λhy=>?_,λhy=>?_⟩,?_⟩
  ·obtain⟨i,i0,i1,rfl⟩:=qq hy;rw[hr i i0 U];exact bY i i0 U
  ·obtain⟨c,c0,c1,rfl⟩:=qq hy;obtain⟨i,i0,i1,q⟩:=tF c c0 U;rw[<-q,<-hr i i0 i1];exact fV i0 U
  ·refine We λi j i0 ij j1=>?_
   rw[hr i i0 U,hr j U U];exact hR i j i0 ij U
 |succ n ih=>
  intro k x x8 x9 hn hk hx h8 RZ h9 hle hc hR Gb bY tF
  by_cases JS:x2+x9=s.length
  ·exact ih k x x8 x9 U U hx h8 RZ h9 hle hc hR Gb bY tF
  obtain⟨k,rfl⟩:=bz hk;have El:((aB x x2 (s.length:Int)).length:Int)=s.length-x2:=by rw[iQ U];omega
  have sk: ∀i:Int,0<=i->i<s.length-x2->rd (aB x x2 (s.length:Int)) i=rd x (x2+i):=λi i0 i1=>by
   unfold aB;rw[iP (xs:=List.take _ _) bo,List.getElem_take,List.getElem_drop,iP U]
   congr 1;omega
  rw[jI.l1,El,wi (x:=x9-1) U U];simp only[Pc];rw[sk x9 U U,sk (x9-1) U U,hc (x2+x9) U U,hc (x2+(x9-1)) U U,wi (x:=x9+1) U U];refine Ok.pos U (Ok.br U (Ok.br U (Ok.ite (λq=>Ok.br U ?_) λq=>?_)))
  ·rw[wi U U];have dV: ∀c:Int,0<=c->rd (aD x x8.toNat (rd s (x2+x9))) c=if c=x8 then rd s (x2+x9) else rd x c:=λc c0=>mh U U c0
   refine ih k _ (x8+1) (x9+1) U U (by simpa using hx) U U U U (λc c0 c1=>?_) (λi j i0 ij j1=>?_) (λi c i0 i1 c0 c1=>?_) (λi i0 i1=>?_) (λc c0 c1=>?_)
   ·rw[dV c U,aj U];exact hc c U c1
   ·rw[dV i i0,dV j U,aj U];split
    ·exact Gb i _ i0 U U U
    ·exact hR i j i0 ij U
   ·rw[dV i i0];split
    ·exact yi hs U U c1
    ·exact Gb i c i0 U U c1
   ·rw[dV i i0];split
    ·exact fV U U
    ·exact bY i i0 U
   ·by_cases z:c=x2+x9
    ·exact⟨x8,by omega,by omega,by rw[dV _ U,ah J,z]⟩
    ·obtain⟨i,i0,i1,y⟩:=tF c c0 U;exact⟨i,i0,by omega,by rw[dV i i0,aj U];exact y⟩
  ·have q:rd s (x2+x9)=rd s (x2+(x9-1)):=by simpa using q
   refine ih k x x8 (x9+1) U U hx h8 U U U (λc c0 c1=>hc c U c1) hR (λi c i0 i1 c0 c1=>Gb i c i0 i1 U c1) bY (λc c0 c1=>?_)
   by_cases z:c=x2+x9
   ·rw[z,q];exact tF _ U U
   ·exact tF c c0 U
theorem aax {R:aX->aX->Prop} (s:List aX) (hs:s.Pairwise R) (hb:s.length<=1000000): ∀(n k:Nat) (i:Int),(s.length-i).toNat<=n->n<k->1<=i->
 Ok (jI.l0 k s i) (λr=>r.length<=s.length/\(∀e,e∈r↔e∈s)/\r.Pairwise R):=by
 intro n
 induction n with
 |zero=>
  intro k i hn hk hi;obtain⟨k,rfl⟩:=bz hk;rw[jI.l0,aj U];exact Ok.pure ⟨jM _,λ_=>Iff.rfl,hs⟩
 |succ n ih=>
  intro k i hn hk hi;obtain⟨k,rfl⟩:=bz hk;rw[jI.l0];refine Ok.ite (λhl=>?_) λ_=>Ok.pure ⟨jM _,λ_=>Iff.rfl,hs⟩
  rw[wi (x:=i-1) U U];simp only[Pc];refine Ok.br U (Ok.br U (Ok.ite (λq=>Ok.br U ?_) λq=>?_))
  ·have q:rd s i=rd s (i-1):=by simpa using q
   refine aay s hs hb (x2:=i) U s.length fuel s i 1 U (by rw[cY];omega) J hi U U U (λ_ _ _=>rfl) (λa b a0 ab b1=>yi hs a0 ab U) (λa c a0 a1 c0 c1=>yi hs a0 U c1) (λa a0 a1=>fV a0 U) (λc c0 c1=>?_)
   by_cases z:c=i
   ·exact⟨i-1,by omega,by omega,by rw[z,q]⟩
   ·exact⟨c,c0,by omega,J⟩
  ·rw[wi U U];exact ih k (i+1) U U U
theorem aaw {R:aX->aX->Prop} (s:List aX) (hs:s.Pairwise R) (hb:s.length<=1000000):Ok (jI.f s) (λr=>r.length<=s.length/\(∀e,e∈r↔e∈s)/\r.Pairwise R):=by
 unfold jI.f;exact Ok.ite (λ_=>Ok.pure ⟨jM _,λ_=>Iff.rfl,hs⟩) λ_=>aax s hs hb s.length fuel 1 U (by rw[cY];omega) U
def AH (x y:Int):Int:=if x<y then-1 else if x>y then 1 else 0
theorem aau (x y:Int):tn.f x y=some (AH x y):=by
 unfold tn.f cmp_isNaN_int.f AH;simp only[aM,bne_self_eq_false,ji,if_false];split
 ·rfl
 ·split<;>rfl
theorem afV (a b c:Int):ng.f [a,b,c]=some (if a≠0 then a else if b≠0 then b else c):=by
 unfold ng.f;obtain⟨k,hk⟩: ∃q,fuel=q+1+1+1+1:=⟨fuel-4,by rw[cY]⟩
 have w1:af (0+1)=1:=rfl;have w2:af (1+1)=2:=rfl;have w3:af (2+1)=3:=rfl;have e0:rd [a,b,c] 0=a:=rfl;have e1:rd [a,b,c] 1=b:=rfl;have e2:rd [a,b,c] 2=c:=rfl;have l3:(aa [a,b,c]:Int)=3:=rfl;rw[hk];simp only[ng.l0,l3,w1,w2,w3,e0,e1,e2]
 by_cases ha:a=0
 ·by_cases hb:b=0
  ·by_cases hc:c=0<;>simp[ha,hb,hc]
  ·simp[ha,hb]
 ·simp[ha]
def vi (a b:aX):Int:=if AH a.Key b.Key≠0 then AH a.Key b.Key else if AH a.Cell b.Cell≠0 then AH a.Cell b.Cell else AH a.cH b.cH
theorem afW (a b:aX):pT.f a b=some (vi a b):=by
 unfold pT.f;simp only[aau,afV,aM];rfl
def tY (a b:aX):Prop:=a.Key<b.Key∨a.Key=b.Key/\(a.Cell<b.Cell∨a.Cell=b.Cell/\a.cH<b.cH)
theorem K1 (a b:aX):ltOf vi a b=true↔tY a b:=by
 unfold ltOf vi tY AH;rw[decide_eq_true_iff]
 repeat' split
 all_goals omega
theorem swo:Go.Sort.SWO (ltOf vi):=by
 refine⟨λx=>?_,λx y z h1 h2=>?_,λx y z h1 h2=>?_⟩
 ·rw[<-Bool.not_eq_true,K1];unfold tY;omega
 ·rw[K1] at*;unfold tY at*;omega
 ·rw[<-Bool.not_eq_true,K1] at*;unfold tY at*;omega
theorem Pk (l:List aX) (hb:l.length<=1000000):Ok (np.f l) (λr=>r.length<=l.length/\(∀e,e∈r↔e∈l)/\r.Pairwise (λa b=> ¬tY b a)):=by
 unfold np.f sK.f Bl.f;have e:(λa b=>Option.getD (pT.f a b) 0)=vi:=by funext a b;rw[afW];rfl
 have hlen:=HP swo l;obtain⟨⟨p1,p2,p3⟩,hs⟩:=WL swo l;have hp: ∀x,x∈pX vi l↔x∈l:=λx=>by
  have h1:(pX vi l).toArray.extract 0 l.length=(pX vi l).toArray:=by rw[<-hlen];simp
  have h2:l.toArray.extract 0 l.length=l.toArray:=by simp
  rw[h1,h2] at p3;exact p3.mem_iff
 have hpw:(pX vi l).Pairwise (λa b=> ¬tY b a):=We λi j i0 ij j1=>by
  have:=hs i.toNat j.toNat U U U;rw[<-K1];have g: ∀c:Int,0<=c->c<(pX vi l).length->(pX vi l).toArray[c.toNat]! =rd (pX vi l) c:=λc c0 c1=>by
   rw[iP U];simp;rw[List.getElem?_eq_getElem U];rfl
  rw[g i i0 U,g j U U] at this;simp[this]
 refine Ok.eq (ah bo) ?_;simp only[List.nil_append,e];refine Ok.eq (ah U) ((aaw _ hpw U).bind λr hr=>Ok.pure ⟨by omega,λx=>(hr.2.1 x).trans (hp x),hr.2.2⟩)
def HJ (t:aF) (c side:Int):Prop:=side=4∨(0<=side/\side<=3/\vh t.W t.H c side)
def qP (t:aF) (s:aX):Prop:=0<=s.Cell/\s.Cell<t.C.length/\rd t.C s.Cell≠255/\0<=s.Key/\s.Key<=1073741824/\HJ t s.Cell s.cH
theorem afX {t:aF} (h:mw t) {c side:Int} (c0:0<=c) (c1:c<t.C.length):Ok (Dl.f t c side) (λb=>b=true↔HJ t c side):=by
 unfold Dl.f HJ vh;obtain⟨a,b,d,e,f,_⟩:=h.1;have hl:=ou h.1;have hq:0<=c/t.W/\c/t.W<=c:=⟨Int.ediv_nonneg c0 U,Int.ediv_le_self _ c0⟩;rw[mV c0,pZ c0,wi (x:=c/t.W) U U,wi (x:=t.W-1) U U,wi (x:=t.H-1) U U];refine Ok.br U (Ok.br U (Ok.ite (λz=>Ok.pure ?_) λz=>Ok.ite (λz=>Ok.pure ?_) λz=>Ok.ite (λz=>Ok.pure ?_) λz=>Ok.ite (λz=>Ok.pure ?_) λz=>Ok.pure ?_))
 all_goals simp only[beq_iff_eq] at*
 ·subst z;simp
 ·subst z;simp
 ·subst z;simp
 ·subst z;simp
 ·constructor
  ·exact .inl
  ·rintro(q |q)
   ·exact q
   ·omega
theorem ae9 {t:aF} (h:mw t) (s:aX):Ok (Dk.f s t) (λb=>b=true↔ ¬qP t s):=by
 unfold Dk.f qP;refine(?_:Ok _ (λb:Bool=>b=true↔ ¬qP t s)).bind λr hr=>Ok.pure hr
 unfold qP;refine Ok.ite (λz=>Ok.pure ?_) λz1=>Ok.ite (λz=>Ok.pure ?_) λz2=>Ok.br U (Ok.ite (λz=>Ok.pure ?_) λz3=>Ok.ite (λz=>Ok.pure ?_) λz4=>Ok.ite (λz=>Ok.pure ?_) λz5=>?_)
 ·simp;omega
 ·simp;omega
 ·have z:rd t.C s.Cell=255:=by simpa using z
  simp[z]
 ·simp;omega
 ·simp;omega
 ·refine(afX h U U).bind λr hr=>Ok.pure ?_
  have z3:rd t.C s.Cell≠255:=by simpa using z3
  cases r
  ·have: ¬HJ t s.Cell s.cH:=λq=>by have:=hr.2 q;simp at this
   simp[this]
  ·have:HJ t s.Cell s.cH:=hr.1 J;simp only[Bool.not_true,ji,false_iff,Classical.not_not];exact⟨by omega,by omega,z3,by omega,by omega,this⟩
theorem aea {t:aF} (h:mw t) (l:List aX) (hb:l.length<=1000000): ∀(n k:Nat) (i:Int),(l.length-i).toNat<=n->n<k->0<=i->(∀j:Int,0<=j->j<i->qP t (rd l j))->
 Ok (rA.l0 k l t i) (λr=>0<=r↔ ¬ ∀s∈l,qP t s):=by
 intro n
 induction n with
 |zero=>
  intro k i hn hk hi ha;obtain⟨k,rfl⟩:=bz hk;rw[rA.l0,aj U];refine Ok.pure ⟨λq=>by omega,λq=>absurd (λs hs=>?_) q⟩
  obtain⟨j,j0,j1,rfl⟩:=qq hs;exact ha j j0 U
 |succ n ih=>
  intro k i hn hk hi ha
  by_cases aS:i<l.length
  ·obtain⟨k,rfl⟩:=bz hk;rw[rA.l0];refine Ok.pos aS (Ok.br ⟨hi,aS⟩ ((ae9 h (rd l i)).bind λb kn=>Ok.ite (λq=>Ok.pure ⟨λ_ y=>kn.1 q (y _ (fV hi aS)),λ_=>hi⟩) λq=>?_));rw[wi U U];refine ih k (i+1) U U U (λj j0 j1=>?_)
   by_cases z:j=i
   ·rw[z];exact pg λy=>q (kn.2 y)
   ·exact ha j j0 U
  ·exact ih k i U U hi ha
theorem WK {t:aF} (h:mw t) (l:List aX) (hb:l.length<=1000000):Ok (zZ.f t l) (λb=>b=true↔ ∀s∈l,qP t s):=by
 have hl:=ou h.1;unfold zZ.f ES.f rA.f;rw[K8 _ U,decide_eq_true h.1];refine Ok.eq J (Ok.neg bd (((aea h l hb l.length fuel 0 U (by rw[cY];omega) U (λj j0 j1=>by omega)).bind λr hr=>Ok.pure (P:=λb=>b=true↔ ¬ ∀s∈l,qP t s) (by simp only[decide_eq_true_iff];exact hr)).bind λr hr=>Ok.pure ?_))
 cases r
 ·simp only[Bool.not_false,true_iff];exact pg λy=>by have:=hr.2 y;simp at this
 ·simp only[Bool.not_true,ji,false_iff];exact hr.1 J
theorem ahs (a b:List aX) (hl:a.length=b.length) (hb:a.length<=1000000): ∀(n k:Nat) (i:Int),(a.length-i).toNat<=n->n<k->0<=i->(∀j:Int,0<=j->j<i->rd a j=rd b j)->
 ry.l0 k a b i=some (decide (a=b)):=by
 intro n
 induction n with
 |zero=>
  intro k i hn hk hi ha;obtain⟨k,rfl⟩:=bz hk;rw[ry.l0,aj U,decide_eq_true (yj hl λj j0 j1=>ha j j0 U)]
 |succ n ih=>
  intro k i hn hk hi ha
  by_cases aS:i<a.length
  ·obtain⟨k,rfl⟩:=bz hk;rw[ry.l0,ah aS,ah ⟨hi,aS⟩,ah U,Pc]
   by_cases q:rd a i=rd b i
   ·rw[aj (by simp[q]),wi U U]
    refine ih k (i+1) U U U (λj j0 j1=>?_)
    by_cases z:j=i
    ·rw[z];exact q
    ·exact ha j j0 U
   ·rw[ah (by simp[q]),decide_eq_false (λy=>q (by rw[y]))]
  ·exact ih k i U U hi ha
theorem ahN (a b:List aX) (hb:a.length<=1000000):Bi.f a b=some (decide (a=b)):=by
 unfold Bi.f ry.f
 by_cases hl:a.length=b.length
 ·rw[aj (by simp[hl]),ahs a b hl hb a.length fuel 0 U (by rw[cY];omega) U (λj j0 j1=>by omega)];rfl
 ·rw[ah bo,decide_eq_false (λy=>hl (by rw[y]))];rfl
theorem ZG (l:List aX) (c side:Int) (hb:l.length<=1000000): ∀(n k:Nat) (x:Int) (b:Bool) (i:Int),(l.length-i).toNat<=n->n<k->0<=i->
 ∃r,kY.l0 k l c side x b i=some r:=by
 intro n
 induction n with
 |zero=>
  intro k x b i hn hk hi;obtain⟨k,rfl⟩:=bz hk;exact⟨x,by rw[kY.l0,aj U]⟩
 |succ n ih=>
  intro k x b i hn hk hi
  by_cases aS:i<l.length
  ·obtain⟨k,rfl⟩:=bz hk;rw[kY.l0,ah aS,ah ⟨hi,aS⟩,wi U U];have: ∃q,(if((rd l i).Cell==c)=true then(if((rd l i).cH==side)=true then(if(!b)=true then(some true) else(some (decide ((rd l i).Key<x)))) else(some false)) else(some false))=some q:=by
    repeat' split
    all_goals exact⟨_,J⟩
   obtain⟨q,hq⟩:=this;rw[hq,aM];split
   ·exact ih k _ _ (i+1) U U U
   ·exact ih k _ _ (i+1) U U U
  ·exact ih k x b i U U hi
theorem ZF (l:List aX) (c side:Int) (hb:l.length<=1000000): ∃r,kY.f l c side=some r:=
 ZG l c side hb l.length fuel _ _ 0 U (by rw[cY];omega) U
def kW (b:jX):List Int:=b.items.drop b.gone.toNat
def kD:List jX->Int
 |[]=>0
 |b::l=>(kW b).length+kD l
theorem Px: ∀l,0<=kD l
 |[]=>dP _
 |b::l=>by have:=Px l;unfold kD;omega
theorem W6: ∀(l:List jX) (j:Nat) (b:jX),j<l.length->kD (l.set j b)=kD l-(kW (rd l (j:Int))).length+(kW b).length
 |[],j,b,h=>by simp at h
 |a::l,0,b,_=>by simp[kD,rd];omega
 |a::l,j+1,b,h=>by
  have:=W6 l j b (by simpa using h)
  have e:rd (a::l) ((j+1:Nat):Int)=rd l (j:Int):=by unfold rd;simp
  simp only[List.set_cons_succ,kD];rw[this,e];omega
theorem W3: ∀(l:List jX) (j:Nat),j<l.length->((kW (rd l (j:Int))).length:Int)<=kD l
 |a::l,0,_=>by have:=Px l;simp[kD,rd];omega
 |a::l,j+1,h=>by
  have:=W3 l j (by simpa using h)
  have e:rd (a::l) ((j+1:Nat):Int)=rd l (j:Int):=by unfold rd;simp
  simp only[kD];rw[e];omega
theorem W5: ∀(l:List jX),0<kD l-> ∃j:Nat,j<l.length/\kW (rd l (j:Int))≠[]
 |[],h=>by simp[kD] at h
 |a::l,h=>by
  by_cases z:kW a=[]
  ·obtain⟨j,h1,h2⟩:=W5 l (by simp[kD,z] at h;exact h)
   exact⟨j+1,by simpa using h1,by have e:rd (a::l) ((j+1:Nat):Int)=rd l (j:Int):=by unfold rd;simp
                                  rw[e];exact h2⟩
  ·exact⟨0,by simp,by simpa[rd] using z⟩
theorem W4 {n:Nat}: ∀(l:List jX),(∀b∈l,b.items.length<=n)->kD l<=l.length*n
 |[],_=>by simp[kD]
 |b::l,h=>by
  have:=W4 l (λb hb=>h b (pj _ hb));have hb:=h b (na ..);have:(kW b).length<=b.items.length:=by unfold kW;simp
  rw[kD,uA,Int.natCast_add,Int.add_mul,Int.natCast_one,Int.one_mul];omega
structure iI (r:eU) (n:Nat):Prop where
 len_:r.buckets.length=256
 at_:0<=r.aZ/\r.aZ<=8796093022208
 gone: ∀b∈r.buckets,0<=b.gone/\b.gone<=b.items.length/\b.items.length<=n
 Bw:r.len=kD r.buckets
 n_:n<=1000000000
def Has (r:eU) (k i:Int):Prop:=r.aZ<=k/\k<r.aZ+256/\i∈kW (rd r.buckets (k%256))
variable {r : eU} {n : Nat}
theorem iI.CF (h:iI r n):0<=r.len/\r.len<=256000000000:=by
 have h1:=Px r.buckets;have h2:=W4 r.buckets (λb hb=>(h.gone b hb).2.2);have:=h.n_;rw[h.len_] at h2;rw[h.Bw];omega
theorem iI.none (h:iI r n) (h0:r.len=0) (k i:Int): ¬Has r k i:=by
 rintro⟨h1,h2,h3⟩;have:=W3 r.buckets (k%256).toNat (by rw[h.len_];omega)
 rw[<-h.Bw,h0,show(((k%256).toNat:Nat):Int)=k%256 by omega] at this
 have:=List.length_pos_iff.2 (List.ne_nil_of_mem h3);omega
theorem iI.some (h:iI r n) (h0:r.len≠0): ∃k i,Has r k i:=by
 have:=h.CF;obtain⟨j,j1,j2⟩:=W5 r.buckets (by rw[<-h.Bw];omega)
 obtain⟨i,hi⟩:=List.exists_mem_of_ne_nil _ j2;rw[h.len_] at j1;have ha:=h.at_;refine⟨r.aZ+(j-r.aZ%256)%256,i,by omega,by omega,?_⟩
 rw[show(r.aZ+(j-r.aZ%256)%256)%256=(j:Int) by omega];exact hi
theorem agQ: ∃r,wF.f 0=some (some r)/\r.aZ=0/\iI r 0/\ ∀k i,¬Has r k i:=by
 refine⟨_,J,J,⟨List.length_replicate ..,⟨dP _,by decide⟩,λb hb=>?_,?_,by omega⟩,λk i=>?_⟩
 ·rw[List.mem_replicate] at hb;rw[hb.2];exact⟨dP _,dP _,jM _⟩
 ·have: ∀n,kD (ct n (default:jX))=0:=λn=>by
   induction n with
   |zero=>rfl
   |succ n ih=>rw[List.replicate_succ,kD,ih];rfl
  rw[this]
 ·rintro⟨_,_,h3⟩;rw[wA U U] at h3;have:kW (default:jX)=[]:=rfl;rw[this] at h3;simp at h3
theorem Wi {b:jX} {j:Int} {l:Int} (h:iI r n) {n':Nat} (hn:n<=n') (Gx:n'<=1000000000) (j0:0<=j) (j1:j<256) (hb:0<=b.gone/\b.gone<=b.items.length/\b.items.length<=n') {a:Int} (ha:0<=a/\a<=8796093022208)
 (hl:l=r.len-(kW (rd r.buckets j)).length+(kW b).length):iI ⟨a,l,aD r.buckets j.toNat b⟩ n':=by
 refine⟨by simp[h.len_],ha,λc hc=>?_,?_,Gx⟩
 ·rcases List.mem_or_eq_of_mem_set hc with z |rfl
  ·have:=h.gone c z;omega
  ·exact hb
 ·simp only;rw[W6 _ _ _ (by rw[h.len_];omega),hl,h.Bw,show((j.toNat:Nat):Int)=j by omega]
theorem Wj (h:iI r n) (hn:n<1000000000) {key:Int} (k1:key<=8796093022208) (k0:0<=key) (i:Int):
 Ok (tR.f r key i) (λx=>x.2.aZ=r.aZ/\iI x.2 (n+1)/\((x.1=true/\r.aZ<=key/\key<r.aZ+256/\x.2.len=r.len+1/\ ∀k j,Has x.2 k j↔Has r k j∨(k=key/\j=i))∨(x.1=false/\(key<r.aZ∨r.aZ+256<=key)/\x.2=r))):=by
 have ha:=h.at_;have hl:=h.CF;unfold tR.f;have e:(if key<r.aZ then some true else some (decide (af (key-r.aZ)≥256)))=some (decide (key<r.aZ∨r.aZ+256<=key)):=by
  rw[wi U U]
  by_cases z:key<r.aZ
  ·simp[z]
  ·simp only[z,if_false,false_or];congr 2;rw[eq_iff_iff];constructor<;>intro<;>omega
 have hs:iI r (n+1):=⟨h.len_,h.at_,λb hb=>by have:=h.gone b hb;omega,h.Bw,by omega⟩
 refine Ok.eq e (Ok.ite (λz=>Ok.pure ⟨J,hs,.inr ⟨J,of_decide_eq_true z,J⟩⟩) λz=>?_);have z: ¬(key<r.aZ∨r.aZ+256<=key):=by simpa using z
 rw[mV k0];have hb:=h.gone (rd r.buckets (key%256)) (fV U (by rw[h.len_];omega))
 refine Ok.br (by rw[h.len_];omega) ?_
 unfold zS.f;rw[ah U];have hp:kW ⟨(rd r.buckets (key%256)).items++[i],(rd r.buckets (key%256)).gone⟩=kW (rd r.buckets (key%256))++[i]:=by
  unfold kW;simp only;rw[List.drop_append_of_le_length U]
 refine Ok.pure ⟨J,Wi (b:=⟨(rd r.buckets (key%256)).items++[i],(rd r.buckets (key%256)).gone⟩) h (Nat.le_succ n) U U U ⟨hb.1,by simp;omega,by simp;omega⟩ ha ?_,.inl ⟨J,by omega,by omega,?_,λk j=>?_⟩⟩
 ·rw[wi U U,hp];simp;omega
 ·simp only;rw[wi U U]
 ·unfold Has;simp only;rw[mh U (by rw[h.len_];omega) U]
  by_cases y:k%256=key%256
  ·rw[ah y,hp,y];constructor
   ·rintro⟨a,b,c⟩;rcases List.mem_append.1 c with c |c
    ·exact .inl ⟨a,b,c⟩
    ·exact .inr ⟨by omega,by simpa using c⟩
   ·rintro(⟨a,b,c⟩ |⟨rfl,rfl⟩)
    ·exact⟨a,b,List.mem_append_left _ c⟩
    ·exact⟨by omega,by omega,by simp⟩
  ·rw[aj y];constructor
   ·exact .inl
   ·rintro(q |⟨rfl,_⟩)
    ·exact q
    ·exact absurd J y
theorem af3: ∀(m k:Nat) (r:eU) (x y:Int),(x-r.aZ).toNat<=m->m<k->iI r n->x<=8796093022208->Has r x y->
 Ok (oX.l0 k r) (λq=>iI q n/\q.buckets=r.buckets/\q.len=r.len/\r.aZ<=q.aZ/\kW (rd q.buckets (q.aZ%256))≠[]/\ ∀a b,Has q a b↔Has r a b):=by
 intro m
 induction m with
 |zero=>
  intro k r x y hm hk h hx hy;obtain⟨k,rfl⟩:=bz hk;have ha:=h.at_;have sm:x=r.aZ:=by have:=hy.1;omega
  subst sm;rw[oX.l0,mV ha.1];unfold yp.f;have bI:=List.ne_nil_of_mem hy.2.2;refine Ok.br (by rw[h.len_];omega) (Ok.neg ?_ (Ok.pure ⟨h,J,J,by omega,bI,λ_ _=>Iff.rfl⟩))
  intro z;have z:(rd r.buckets (r.aZ%256)).gone=(rd r.buckets (r.aZ%256)).items.length:=by simpa using z
  exact bI (by unfold kW;rw[z];simp)
 |succ m ih=>
  intro k r x y hm hk h hx hy;obtain⟨k,rfl⟩:=bz hk;have ha:=h.at_;rw[oX.l0,mV ha.1];unfold yp.f;have uT:=h.gone (rd r.buckets (r.aZ%256)) (fV U (by rw[h.len_];omega))
  refine Ok.br (by rw[h.len_];omega) (Ok.ite (λz=>?_) λz=>Ok.pure ⟨h,J,J,by omega,λq=>?_,λ_ _=>Iff.rfl⟩)
  ·have z:(rd r.buckets (r.aZ%256)).gone=(rd r.buckets (r.aZ%256)).items.length:=by simpa using z
   have hp:kW (rd r.buckets (r.aZ%256))=[]:=by unfold kW;rw[z];simp
   have bI:x≠r.aZ:=by rintro rfl;have:=hy.2.2;rw[hp] at this;simp at this
   have:=hy.1;rw[wi U U];have hh: ∀a b,Has ⟨r.aZ+1,r.len,r.buckets⟩ a b↔Has r a b:=λa b=>by
    unfold Has;simp only;constructor
    ·rintro⟨q1,q2,q3⟩;refine⟨by omega,?_,q3⟩
     apply pg;intro q;have:a%256=r.aZ%256:=U;rw[this,hp] at q3;simp at q3
    ·rintro⟨q1,q2,q3⟩;refine⟨?_,by omega,q3⟩
     apply pg;intro q;have:a=r.aZ:=U;rw[this,hp] at q3;simp at q3
   refine(ih k ⟨r.aZ+1,r.len,r.buckets⟩ x y (by simp only;omega) U ⟨h.len_,by simp only;omega,h.gone,h.Bw,h.n_⟩ hx ((hh x y).2 hy)).mono λq hq=>⟨hq.1,hq.2.1,hq.2.2.1,by have:=hq.2.2.2.1;simp only at this;omega,hq.2.2.2.2.1,λa b=>(hq.2.2.2.2.2 a b).trans (hh a b)⟩
  ·unfold kW at q;rw[List.drop_eq_nil_iff] at q;exact z bo
theorem agX (h:iI r n) {x y:Int} (hx:x<=8796093022208) (hy:Has r x y):
 Ok (oX.f r) (λq=>q.2.2.1=true/\iI q.2.2.2 n/\q.2.2.2.aZ=q.1/\q.2.2.2.len=r.len-1/\Has r q.1 q.2.1/\(∀a b,Has r a b->q.1<=a)/\(∀a b,Has q.2.2.2 a b->Has r a b)/\ ∀a b,Has r a b->(a=q.1/\b=q.2.1)∨Has q.2.2.2 a b):=by
 unfold oX.f wG.f;have hl:=h.CF;have xI:r.len≠0:=λz=>h.none z x y hy
 refine Ok.eq J (Ok.neg (by simpa using xI) ((af3 (x-r.aZ).toNat fuel r x y U (by rw[cY];have:=h.at_;omega) h hx hy).bind λq hq=>?_))
 obtain⟨h1,h2,h3,h4,h5,h6⟩:=hq;have ha:=h1.at_;rw[mV ha.1];have hb:=h1.gone (rd q.buckets (q.aZ%256)) (fV U (by rw[h1.len_];omega))
 refine Ok.br (by rw[h1.len_];omega) ?_
 generalize hB:rd q.buckets (q.aZ%256)=B at hb h5;have hg:B.gone<B.items.length:=by
  apply pg;intro z;exact h5 (by unfold kW;rw[List.drop_eq_nil_iff];omega)
 have J5:kW B=rd B.items B.gone::B.items.drop (B.gone+1).toNat:=by unfold kW;rw[Mj hb.1 hg]
 have hn:=h1.n_;have ad6: ∃B',sH.f B=some (rd B.items B.gone,B')/\kW B'=B.items.drop (B.gone+1).toNat/\0<=B'.gone/\B'.gone<=B'.items.length/\B'.items.length<=n:=by
  unfold sH.f yp.f;rw[ah ⟨hb.1,hg⟩,wi U U];simp only[aM]
  by_cases z:B.gone+1=B.items.length
  ·rw[ah (by simpa using z),ah U]
   exact⟨_,J,by unfold kW aB;simp;omega,dP _,by simp,by simp[aB]⟩
  ·rw[aj (by simpa using z)]
   exact⟨_,J,J,by simp only;omega,by simp only;omega,hb.2.2⟩
 obtain⟨B',e1,e2,e3⟩:=ad6;have hR:iI ⟨q.aZ,af (q.len-1),aD q.buckets (ax (q.aZ%256)) B'⟩ n:=by
  refine Wi h1 (jM _) hn U U e3 ha ?_;rw[wi U U,hB,J5,e2];simp;omega
 have abu:Has r q.aZ (rd B.items B.gone):=(h6 _ _).1 ⟨by omega,by omega,by rw[hB,J5];simp⟩
 have dV: ∀a:Int,rd (aD q.buckets (ax (q.aZ%256)) B') (a%256)=if a%256=q.aZ%256 then B' else rd q.buckets (a%256):=λa=>mh U (by rw[h1.len_];omega) U
 refine Ok.eq e1 (Ok.pure ⟨J,hR,J,by simp only;rw[wi U U,h3],abu,λa b zn=>((h6 a b).2 zn).1,λa b zn=>?_,λa b zn=>?_⟩)
 ·obtain⟨q1,q2,q3⟩:=zn;simp only at q1 q2 q3;rw[dV] at q3;refine(h6 a b).1 ⟨q1,q2,?_⟩;split at q3
  ·rename_i z;rw[z,hB,J5];rw[e2] at q3;exact pj _ q3
  ·exact q3
 ·obtain⟨q1,q2,q3⟩:=(h6 a b).2 zn
  by_cases z:a%256=q.aZ%256
  ·have:a=q.aZ:=U;subst this;rw[hB,J5] at q3;rcases List.mem_cons.1 q3 with y |y
   ·exact .inl ⟨J,y⟩
   ·exact .inr ⟨q1,q2,by simp only;rw[dV,ah J,e2];exact y⟩
  ·exact .inr ⟨q1,q2,by simp only;rw[dV,aj z];exact q3⟩
theorem aeu (h:iI r n) {key:Int} (k0:0<=key) (k1:key<=1099511627776) (h0:r.len=0):
 Ok (yo.f r key) (λx=>iI x.2 n/\x.2.len=0/\x.2.aZ=if key<r.aZ then r.aZ else key):=by
 unfold yo.f;rw[aj U];refine Ok.eq J (Ok.ite (λz=>Ok.pure ⟨h,h0,?_⟩) λz=>Ok.pure ⟨⟨h.len_,by simp only;omega,h.gone,h.Bw,h.n_⟩,h0,?_⟩)
 ·simp at z;rw[ah U]
 ·simp at z;rw[aj U]
theorem LI {n:Int} (h0:0<=n) (h1:n<4294967296):((fX (cg (IntKind.bits .u64) n&&&cg (IntKind.bits .u64) 4294967295):Nat):Int)=n:=by
 obtain⟨k,rfl⟩: ∃k:Nat,n=(k:Int):=⟨n.toNat,by omega⟩
 have e1:(cg (IntKind.bits .u64) (k:Int)).toNat=k:=by
  show(cg 64 (k:Int)).toNat=k
  rw[BitVec.toNat_ofInt];omega
 have e2:(cg (IntKind.bits .u64) 4294967295).toNat=2^32-1:=by rfl
 rw[BitVec.toNat_and,e1,e2,Nat.and_two_pow_sub_one_eq_mod];omega
theorem rG {x:Int} (h1:0<=x) (h2:x<=18446744073709551615):eW x=x:=by
 unfold eW IntKind.wrap IntKind.signed IntKind.bits;simp;omega
theorem afp {n:Int} (h0:0<=n) (h1:n<4294967296):tJ.f 1 n=some (0,n):=by
 unfold tJ.f CH.f;have a1:fL 1 (2^32)=0:=by rfl
 have a2:fL n (2^32)=0:=by rw[Int.fdiv_eq_ediv_of_nonneg _ U];omega
 have a3:((fX (cg (IntKind.bits .u64) 1&&&cg (IntKind.bits .u64) 4294967295):Nat):Int)=1:=LI U U;have a4:=LI h0 h1;have w0:eW 0=0:=rG U U;have w1:eW 1=1:=rG U U;have wn:eW n=n:=rG h0 U;have a5:((fX (cg (IntKind.bits .u64) 0&&&cg (IntKind.bits .u64) 4294967295):Nat):Int)=0:=LI U U;have f0:fL 0 (2^32)=0:=by rfl
 simp only[a1,a2,a3,a4,Int.zero_mul,Int.mul_zero,Int.one_mul,w0,w1,wn,Int.zero_add,a2,a5,f0,aM]
theorem agM {v:Int}: ∀(n k:Nat) (x:List Int) (i:Int),i+n≥x.length->1<=i->(x.length:Int)<=1000000000->n<k->(∀j:Int,0<=j->j<i->j<x.length->rd x j=v)->
 kA.l0 k x i=some (ct x.length v):=by
 intro n
 induction n with
 |zero=>
  intro k x i hi h1 hb hk hx;obtain⟨k,rfl⟩:=bz hk;rw[kA.l0,aj U]
  congr 1
  apply yj bd;intro j j0 j1;rw[hx j j0 U j1,wA j0 U]
 |succ n ih=>
  intro k x i hi h1 hb hk hx;obtain⟨k,rfl⟩:=bz hk
  by_cases hq:i<x.length
  ·have s1:(aB x 0 i).length=i.toNat:=by rw[iQ U];omega
   have s2:(aB x i (x.length:Int)).length=(x.length-i.toNat):=by rw[iQ U];omega
   rw[kA.l0,ah hq,ah U,ah U,s1,s2];have hlen:(cx x i.toNat (min i.toNat (x.length-i.toNat)) (aB x 0 i)).length=x.length:=AK U (by rw[s1];omega)
   rw[bc U U];have:=ih k (cx x i.toNat (min i.toNat (x.length-i.toNat)) (aB x 0 i)) (i+((min i.toNat (x.length-i.toNat):Nat):Int)) (by rw[hlen];omega) U (by rw[hlen];omega) U (λj j0 j1 j2=>?_)
   ·rw[this,hlen]
   ·rw[hlen] at j2;unfold cx
    by_cases we:j<i
    ·rw[vf j0 (by rw[List.length_take];omega)]
     have:rd (x.take i.toNat) j=rd x j:=by
      unfold rd;simp[List.getD,List.getElem?_take,show j.toNat<i.toNat by omega]
     rw[this];exact hx j j0 we U
    ·rw[oa (by rw[List.length_take];omega),List.length_take,show((min i.toNat x.length:Nat):Int)=i by omega]
     rw[vf U (by rw[List.length_take,s1];omega)]
     have:rd ((aB x 0 i).take (min i.toNat (x.length-i.toNat))) (j-i)=rd x (j-i):=by
      unfold rd aB;simp[List.getD,List.getElem?_take,show(j-i).toNat<i.toNat by omega,show(j-i).toNat<x.length-i.toNat by omega]
      rw[ah U]
     rw[this];exact hx (j-i) U U U
  ·rw[kA.l0,aj hq]
   congr 1
   apply yj bd;intro j j0 j1;rw[hx j j0 U j1,wA j0 U]
theorem Wh {v:Int} {n:Nat} (h0:1<=n) (h1:n<=1000000000):kA.f [v] (n:Int)=some (ct n v):=by
 unfold kA.f;have e1:eW (([v]:List Int).length:Int)=1:=by rw[show(([v]:List Int).length:Int)=1 from rfl];exact rG U U
 rw[aj U,e1,rG (x:=(n:Int)) U U,afp U U,aM];simp only;rw[aj bo,bc U U,ah U,Int.toNat_natCast];have e2:min ([v]:List Int).length (ct n (0:Int)).length=1:=by rw[List.length_replicate];simp;omega
 rw[e2];have e3:cx (ct n (0:Int)) 0 1 [v]=v::ct (n-1) 0:=by
  unfold cx;simp
 have hl:(v::ct (n-1) (0:Int)).length=n:=by simp;omega
 rw[e3,agM (v:=v) n fuel _ ((1:Nat):Int) U U U (by rw[cY];omega) (λj j0 j1 _=>by
  rw[show j=0 by omega];rfl),hl]
 rfl
theorem agL: ∀(k:Nat) (x:List Int) (i:Int),pW.l0 k x i=kA.l0 k x i:=by
 intro k
 induction k with
 |zero=>intros;rfl
 |succ k ih=>intro x i;rw[pW.l0,kA.l0];simp only[ih]
theorem agN {v:Int} {n:Nat} (h0:1<=n) (h1:n<=1000000000):pW.f [v] (n:Int)=some (ct n v):=by
 rw[<-Wh h0 h1];unfold pW.f kA.f;simp only[agL]
def yW (w h c:Int):Nat->Int->Bool
 |0,_=>false
 |n+1,j=>decide (0<=fi w h c j)||yW w h c n (j+1)
def Be (w h s l:Int):Bool:=yW w h (cu w h s l) 4 0
def vg (w h s:Int) (n:Nat):List Int:=((List.range n).filter (λl:Nat=>Be w h s (l:Int))).map (λl:Nat=>cu w h s (l:Int))
def qz (w h s:Int):List Int:=vg w h s ((ay w h s).1*(ay w h s).2).toNat
theorem aak (w h s:Int) (n:Nat):vg w h s (n+1)=if Be w h s (n:Int)=true then vg w h s n++[cu w h s (n:Int)] else vg w h s n:=by
 unfold vg;rw[List.range_succ,List.filter_append,List.map_append]
 by_cases h:Be w h s (n:Int)=true
 ·rw[ah h];simp[h]
 ·rw[aj h];simp[h]
theorem Q4 (w h s:Int) (n:Nat):(vg w h s n).length<=n:=by
 unfold vg;rw[List.length_map];have:=List.length_filter_le (λl:Nat=>Be w h s (l:Int)) (List.range n);simpa using this
theorem wO (w h s:Int):0<=(ay w h s).1*(ay w h s).2/\(ay w h s).1*(ay w h s).2<=256:=by
 have hz:=size_le w h s;have:(ay w h s).1*(ay w h s).2<=16*16:=kT hz.1 hz.2.2.1 hz.2.1 hz.2.2.2;exact⟨nj hz.1 hz.2.2.1,by omega⟩
theorem Pj {w h s l:Int} (h0:0<=l) (h1:l<(ay w h s).1*(ay w h s).2):bC w h s:=by
 by_cases hs:bC w h s
 ·exact hs
 ·have:ay w h s=(0,0):=by unfold ay;rw[aj hs]
  rw[this] at h1;simp at h1;omega
def wK (tw th side i:Int):Int:=if side=2 then(th-1)*tw+i else if side=0 then i else if side=1 then tw-1+i*tw else i*tw
def qA (tw th side:Int):Int:=if side=2∨side=0 then tw else if side=1∨side=3 then th else 0
def qy (tw th side:Int) (n:Nat):List Int:=(List.range n).map (λi:Nat=>wK tw th side (i:Int))
def sI (tw th side:Int):List Int:=qy tw th side (qA tw th side).toNat
theorem IQ (tw th side:Int) (n:Nat):qy tw th side (n+1)=qy tw th side n++[wK tw th side (n:Int)]:=by
 unfold qy;rw[List.range_succ,List.map_append];rfl
theorem FB (tw th side:Int) (n:Nat):(qy tw th side n).length=n:=by simp[qy]
theorem Yi {tw th:Int} (side:Int) (t0:0<=tw) (t1:tw<=16) (u0:0<=th) (u1:th<=16):fp.f tw th side=some (sI tw th side):=by
 unfold fp.f sI;have hb: ∀i:Int,0<=i->i<=16->0<=i*tw/\i*tw<=256:=λi i0 i1=>⟨nj i0 t0,by have:=kT i0 t0 i1 t1;omega⟩
 by_cases h2:side=2
 ·subst h2;rw[ah (by rfl)]
  have Nn: -16<=(th-1)*tw/\(th-1)*tw<=256:=by
   have:=hb th u0 u1;rw[Int.sub_mul,Int.one_mul];omega
  have key: ∀(n k:Nat) (i:Int),i+n=tw->0<=i->n<k->fp.l0 k tw th (qy tw th 2 i.toNat) i=some (qy tw th 2 tw.toNat):=by
   intro n
   induction n with
   |zero=>
    intro k i hi h0 hk;obtain⟨k,rfl⟩:=bz hk;rw[fp.l0,aj U];rw[show i=tw by omega]
   |succ n ih=>
    intro k i hi h0 hk;obtain⟨k,rfl⟩:=bz hk;rw[fp.l0,ah U,ah (by rw[FB];omega),bc (x:=th-1) U U,bc (x:=(th-1)*tw) U U,bc U U,bc U U]
    have:=ih k (i+1) U U U;rw[show(i+1).toNat=i.toNat+1 by omega,IQ,show((i.toNat:Nat):Int)=i by omega] at this
    exact this
  exact key tw.toNat fuel 0 U U (by rw[cY];omega)
 rw[aj (by simpa using h2)]
 by_cases h0:side=0
 ·subst h0;rw[ah (by rfl)]
  have key: ∀(n k:Nat) (i:Int),i+n=tw->0<=i->n<k->fp.l1 k tw (qy tw th 0 i.toNat) i=some (qy tw th 0 tw.toNat):=by
   intro n
   induction n with
   |zero=>
    intro k i hi h0 hk;obtain⟨k,rfl⟩:=bz hk;rw[fp.l1,aj U];rw[show i=tw by omega]
   |succ n ih=>
    intro k i hi h0 hk;obtain⟨k,rfl⟩:=bz hk;rw[fp.l1,ah U,ah (by rw[FB];omega),bc U U,bc U U,Int.zero_add]
    have:=ih k (i+1) U U U;rw[show(i+1).toNat=i.toNat+1 by omega,IQ,show((i.toNat:Nat):Int)=i by omega] at this
    exact this
  exact key tw.toNat fuel 0 U U (by rw[cY];omega)
 rw[aj (by simpa using h0)]
 by_cases h1:side=1
 ·subst h1;rw[ah (by rfl)]
  have key: ∀(n k:Nat) (i:Int),i+n=th->0<=i->n<k->fp.l2 k tw th (qy tw th 1 i.toNat) i=some (qy tw th 1 th.toNat):=by
   intro n
   induction n with
   |zero=>
    intro k i hi h0 hk;obtain⟨k,rfl⟩:=bz hk;rw[fp.l2,aj U];rw[show i=th by omega]
   |succ n ih=>
    intro k i hi h0 hk;obtain⟨k,rfl⟩:=bz hk;have:=hb i U U;rw[fp.l2,ah U,ah (by rw[FB];omega),bc (x:=tw-1) U U,bc (x:=i*tw) U U,bc U U,bc U U]
    have:=ih k (i+1) U U U;rw[show(i+1).toNat=i.toNat+1 by omega,IQ,show((i.toNat:Nat):Int)=i by omega] at this
    exact this
  exact key th.toNat fuel 0 U U (by rw[cY];omega)
 rw[aj (by simpa using h1)]
 by_cases h3:side=3
 ·subst h3;rw[ah (by rfl)]
  have key: ∀(n k:Nat) (i:Int),i+n=th->0<=i->n<k->fp.l3 k tw th (qy tw th 3 i.toNat) i=some (qy tw th 3 th.toNat):=by
   intro n
   induction n with
   |zero=>
    intro k i hi h0 hk;obtain⟨k,rfl⟩:=bz hk;rw[fp.l3,aj U];rw[show i=th by omega]
   |succ n ih=>
    intro k i hi h0 hk;obtain⟨k,rfl⟩:=bz hk;have:=hb i U U;rw[fp.l3,ah U,ah (by rw[FB];omega),bc (x:=i*tw) U U,Int.zero_add,bc U U,bc U U]
    have:=ih k (i+1) U U U;rw[show(i+1).toNat=i.toNat+1 by omega,IQ,show((i.toNat:Nat):Int)=i by omega] at this
    exact this
  exact key th.toNat fuel 0 U U (by rw[cY];omega)
 rw[aj (by simpa using h3)]
 have:qA tw th side=0:=by unfold qA;rw[aj U,aj U]
 rw[this];rfl
theorem af5 {tw th side i:Int} (t0:1<=tw) (u0:1<=th) (i0:0<=i) (i1:i<qA tw th side):0<=wK tw th side i/\wK tw th side i<tw*th/\vh tw th (wK tw th side i) side:=by
 have hb: ∀j:Int,0<=j->j<=th-1->0<=j*tw/\j*tw+tw<=tw*th:=λj j0 j1=>⟨nj j0 U,by
  have:=BL j1 (by omega:0<=tw)
  rw[Int.sub_mul,Int.one_mul,mv th] at this;omega⟩
 unfold qA at i1;unfold wK vh
 by_cases h2:side=2
 ·subst h2;rw[ah (Or.inl J)] at i1;simp only[if_true];have:=hb (th-1) U U;have q:=pL (y:=th-1) i0 i1;simp only[show ¬((2:Int)=0) by omega,show ¬((2:Int)=1) by omega,if_false]
  exact⟨by omega,by omega,q.2⟩
 by_cases h0:side=0
 ·subst h0;rw[ah (Or.inr J)] at i1;have:=hb 0 U U;simp only[if_true,show ¬((0:Int)=2) by omega,if_false]
  exact⟨i0,by omega,Int.ediv_eq_zero_of_lt i0 i1⟩
 by_cases h1:side=1
 ·subst h1;rw[aj U,ah (Or.inl J)] at i1;simp only[show ¬((1:Int)=2) by omega,show ¬((1:Int)=0) by omega,if_false,if_true]
  have:=hb i U U;have q:=pL (a:=tw) (x:=tw-1) (y:=i) U U;rw[Int.add_comm];exact⟨by omega,by omega,q.1⟩
 ·rw[aj U] at i1
  by_cases h3:side=3
  ·subst h3;rw[ah (Or.inr J)] at i1;have:=hb i U U;simp only[show ¬((3:Int)=2) by omega,show ¬((3:Int)=0) by omega,show ¬((3:Int)=1) by omega,if_false]
   exact⟨by omega,by omega,Int.mul_emod_left _ _⟩
  ·rw[aj U] at i1;omega
theorem afb {tw th side l:Int} (t0:1<=tw) (u0:1<=th) (s0:0<=side) (s3:side<=3):l∈sI tw th side↔0<=l/\l<tw*th/\vh tw th l side:=by
 constructor
 ·intro hm;unfold sI qy at hm;obtain⟨i,hi,rfl⟩:=List.mem_map.mp hm;have qY:=List.mem_range.mp hi;exact af5 t0 u0 U U
 ·rintro⟨l0,l1,lR⟩;have a1:0<=l%tw:=Int.emod_nonneg _ U;have a2:l%tw<tw:=Ax _ U;have a3:0<=l/tw:=Int.ediv_nonneg l0 U;have a4:l/tw<th:=Int.ediv_lt_of_lt_mul U (by rw[mv];exact l1)
  have a5:=uy l tw;rw[mv] at a5;have hc:side=0∨side=1∨side=2∨side=3:=U;have go: ∀i:Int,0<=i->i<qA tw th side->wK tw th side i=l->l∈sI tw th side:=λi i0 i1 e=>by
   unfold sI qy;exact List.mem_map.mpr ⟨i.toNat,List.mem_range.mpr U,by rw[show((i.toNat:Nat):Int)=i by omega];exact e⟩
  unfold vh at lR;rcases hc with rfl |rfl |rfl |rfl
  ·simp only[if_true] at lR;exact go (l%tw) a1 a2 (by unfold wK;rw[lR] at a5;simp;omega)
  ·simp at lR;exact go (l/tw) a3 a4 (by unfold wK;rw[lR] at a5;simp;omega)
  ·simp at lR;exact go (l%tw) a1 a2 (by unfold wK;rw[lR] at a5;simp;omega)
  ·simp at lR;exact go (l/tw) a3 a4 (by unfold wK;rw[lR] at a5;simp;omega)
theorem aao (v:List Int) (hv:v.length<=1000) (N:Int) (bY: ∀y∈v,0<=y/\y<N): ∀(n k:Nat) (i:Int) (x:List Bool),i+n=v.length->0<=i->n<k->(x.length:Int)=N->
 ∃x',gO.l1 k v x i=some x'/\(x'.length:Int)=N/\ ∀l:Int,0<=l->l<N->rd x' l=(rd x l||decide (l∈v.drop i.toNat)):=by
 intro n
 induction n with
 |zero=>
  intro k i x hi h0 hk hx;obtain⟨k,rfl⟩:=bz hk;refine⟨x,by rw[gO.l1,aj U],hx,λl l0 l1=>?_⟩
  rw[List.drop_of_length_le U];simp
 |succ n ih=>
  intro k i x hi h0 hk hx;obtain⟨k,rfl⟩:=bz hk;have hy:=bY _ (fV h0 (by omega:i<(v.length:Int)))
  obtain⟨x',e,hl,hr⟩:=ih k (i+1) (aD x (ax (rd v i)) true) U U U (by simpa using hx)
  refine⟨x',by rw[gO.l1,ah U,ah U,ah U,bc U U];exact e,hl,λl l0 l1=>?_⟩
  rw[hr l l0 l1,mh hy.1 U l0,Mj h0 U]
  by_cases hq:l=rd v i
  ·rw[ah hq,hq];simp
  ·rw[aj hq];simp[hq]
theorem aap (w h s:Int) (x:List Bool) (hx:(x.length:Int)=(ay w h s).1*(ay w h s).2) (hr: ∀l:Int,0<=l->l<x.length->rd x l=Be w h s l): ∀(n k:Nat) (i:Int),i+n=x.length->0<=i->n<k->
 gO.l2 k w h s x (vg w h s i.toNat) i=some (qz w h s):=by
 have hz:=wO w h s;intro n
 induction n with
 |zero=>
  intro k i hi h0 hk;obtain⟨k,rfl⟩:=bz hk;rw[gO.l2,aj U];unfold qz;rw[show i=(ay w h s).1*(ay w h s).2 by omega]
 |succ n ih=>
  intro k i hi h0 hk;obtain⟨k,rfl⟩:=bz hk;have hle:=Q4 w h s i.toNat;have:=ih k (i+1) U U U;rw[show(i+1).toNat=i.toNat+1 by omega,aak,show((i.toNat:Nat):Int)=i by omega] at this
  rw[gO.l2,ah U,ah U,hr i h0 U,bc U U]
  by_cases hb:Be w h s i=true
  ·rw[ah hb] at this;rw[ah hb,Jp,aM,ah U];exact this
  ·rw[aj hb] at this;rw[aj hb];exact this
theorem WD {j:Int} (h0:0<=j) (h3:j<=3):rd ([rd ([0,1,2,3]:List Int) 0,rd ([0,1,2,3]:List Int) 1,rd ([0,1,2,3]:List Int) 2,rd ([0,1,2,3]:List Int) 3]:List Int) j=j:=by
 have:j=0∨j=1∨j=2∨j=3:=U;rcases this with rfl |rfl |rfl |rfl<;>rfl
theorem Qe (w h c:Int): ∀(n:Nat) (j:Int),yW w h c (n+1) j=(yW w h c n j||decide (0<=fi w h c (j+n))):=by
 intro n
 induction n with
 |zero=>intro j;simp[yW]
 |succ n ih=>
  intro j;rw[yW,ih (j+1),yW,Bool.or_assoc];rw[show j+1+(n:Int)=j+((n+1:Nat):Int) by omega]
theorem aan (w h s:Int): ∀(n k:Nat) (j:Int) (x:List Bool),j+n=4->0<=j->n<k->(x.length:Int)=(ay w h s).1*(ay w h s).2->
 (∀l:Int,0<=l->l<x.length->rd x l=yW w h (cu w h s l) j.toNat 0)->
 gO.l0 k w h s (ay w h s) [0,1,2,3] x j=some (qz w h s):=by
 have hz:=wO w h s;have A1:=size_le w h s;intro n
 induction n with
 |zero=>
  intro k j x hj h0 hk hx hr;obtain⟨k,rfl⟩:=bz hk;rw[gO.l0,aj U];have e:j.toNat=4:=U;rw[e] at hr;exact aap w h s x hx hr x.length fuel 0 U U (by rw[cY];omega)
 |succ n ih=>
  intro k j x hj h0 hk hx hr;obtain⟨k,rfl⟩:=bz hk;rw[gO.l0,ah U,WD h0 U,Yi j A1.1 A1.2.1 A1.2.2.1 A1.2.2.2,ah bo,bc U U];rw[aM]
  by_cases hs:bC w h s
  ·have Ke:=pV hs;have hlen:((sI (ay w h s).1 (ay w h s).2 j).length:Int)=qA (ay w h s).1 (ay w h s).2 j:=by
    unfold sI;rw[FB];unfold qA;split
    ·omega
    ·split<;>omega
   have hlp:1<=qA (ay w h s).1 (ay w h s).2 j/\qA (ay w h s).1 (ay w h s).2 j<=16:=by
    unfold qA;split
    ·omega
    ·rw[ah U];omega
   have lQ:=λl=>afb (l:=l) Ke.1 Ke.2.2.1 h0 (by omega:j<=3)
   have h0m:=fV (a:=sI (ay w h s).1 (ay w h s).2 j) (i:=0) U U;obtain⟨f0,f1,f2⟩:=(lQ _).mp h0m;rw[aj (by rw[beq_iff_eq];omega),ah U,Jp,aM,Vk,aM,aM]
   have qm:=KH hs f0 f1 h0 (by omega:j<=3)
   by_cases hn:fi w h (cu w h s (rd (sI (ay w h s).1 (ay w h s).2 j) 0)) j<0
   ·have bI: ¬Bf w h s j:=λq=>by have:=qm.mpr ⟨q,f2⟩;omega
    rw[ah (by simpa using hn),aM]
    refine ih k (j+1) x U U U hx (λl l0 l1=>?_);rw[hr l l0 l1,show(j+1).toNat=j.toNat+1 by omega,Qe,Int.zero_add,show((j.toNat:Nat):Int)=j by omega]
    rw[decide_eq_false (λq=>bI ((KH hs l0 U h0 (by omega:j<=3)).mp q).1)];simp
   ·have hed:Bf w h s j:=(qm.mp U).1;obtain⟨x',e,hl,hq⟩:=aao (sI (ay w h s).1 (ay w h s).2 j) U _ (λy hy=>⟨((lQ y).mp hy).1,((lQ y).mp hy).2.1⟩) (sI (ay w h s).1 (ay w h s).2 j).length fuel 0 x U U (by rw[cY];omega) hx
    rw[aj (by simpa using hn),e,aM]
    refine ih k (j+1) x' U U U hl (λl l0 l1=>?_);rw[hq l l0 U,hr l l0 U,show(j+1).toNat=j.toNat+1 by omega,Qe,Int.zero_add,show((j.toNat:Nat):Int)=j by omega]
    congr 1
    simp only[Int.toNat_zero,List.drop_zero,decide_eq_decide];rw[lQ,KH hs l0 U h0 (by omega:j<=3)]
    exact⟨λq=>⟨hed,q.2.2⟩,λq=>⟨l0,by omega,q.2⟩⟩
  ·have e0:ay w h s=(0,0):=by unfold ay;rw[aj hs]
   have e1:sI (ay w h s).1 (ay w h s).2 j=[]:=by
    unfold sI;rw[e0];have:qA (0,0).1 (0,0).2 j=0:=by unfold qA;split<;>simp
    rw[this];rfl
   rw[e1,ah bd,aM,ah J,aM];refine ih k (j+1) x U U U hx (λl l0 l1=>?_);rw[e0] at hx;simp at hx;subst hx;simp at l1;omega
theorem aal (w h s:Int):gO.f w h s=some (qz w h s):=by
 unfold gO.f;have hz:=wO w h s;have e:zd.f=some [0,1,2,3]:=rfl;rw[ER,aM,bc (x:=_*_) U U,ah U,e,aM];refine aan w h s 4 fuel 0 _ U U (by rw[cY];omega) bo (λl l0 l1=>?_)
 rw[wA l0 (by simpa using l1)];rfl
abbrev nz (m:aF):Prop:=iF m.W m.H/\(m.C.length:Int)=m.W*m.H/\0∉m.C
theorem Qz (m:aF) (hb:m.C.length<4611686018427387904):yY.f m=some (decide (nz m)):=by
 unfold yY.f;rw[zH]
 by_cases hm:iF m.W m.H
 ·have hp:=pJ hm;rw[bc (x:=m.W*m.H) U U,Mb _ _ hb]
  by_cases hl:(m.C.length:Int)=m.W*m.H
  ·simp[hm,hl]
  ·simp[hl]
 ·simp[hm]
theorem Yh {x:List Int} {v:Int} (h: ∀c:Int,0<=c->c<x.length->rd x c=v):x=ct x.length v:=by
 rw[List.eq_replicate_iff];refine⟨J,λb hb=>?_⟩
 obtain⟨i,hi,rfl⟩:=List.getElem_of_mem hb;have:=h i U U;rw[iP (by simpa using hi)] at this
 simpa using this
theorem afA (m:aF) (e:Int) (v2:List Int) (v3:Int×Int) (he:0<=e/\e<=4611686018427387904) (N:Nat) (hN:(ct (ax (af (v3.1*v3.2))) (0:Int)).length=N) (hb:N<=1000000):
 ∀(n k:Nat) (x:List Int) (i:Int),x.length=N->i+n=N->0<=i->n<k->(∀c:Int,0<=c->c<i->rd x c=e+1)->
 l_.l0 k m e v2 v3 x i=some (some (bw.mk (aF.mk m.W m.H v2) (e+1) (ct N (e+1)))):=by
 intro n
 induction n with
 |zero=>
  intro k x i hx hi h0 hk ha;obtain⟨k,rfl⟩: ∃q,k=q+1:=⟨k-1,by omega⟩
  rw[l_.l0,hN,aj U,bc U U];have:=Yh (x:=x) (v:=e+1) (λc c0 c1=>ha c c0 U);rw[hx] at this;rw[this]
 |succ n ih=>
  intro k x i hx hi h0 hk ha;obtain⟨k,rfl⟩: ∃q,k=q+1:=⟨k-1,by omega⟩
  rw[l_.l0,hN,ah U,ah U,bc (x:=e+1) U U,bc (x:=i+1) U U];refine ih k _ (i+1) (by simpa using hx) U U U (λc c0 c1=>?_)
  rw[A9 h0 U c0]
  by_cases hc:c=i
  ·rw[ah hc]
  ·rw[aj hc];exact ha c c0 U
def Jk (m:aF) (e:Int):Option bw:=if nz m/\0<=e/\e<=4611686018427387904 then some (bw.mk m (e+1) (ct (dB m.W m.H).toNat (e+1))) else none
theorem abp (m:aF) (e:Int) (hb:m.C.length<=1099511627776):l_.f m e=some (Jk m e):=by
 unfold l_.f Jk;rw[Qz m U]
 by_cases h:nz m/\0<=e/\e<=4611686018427387904
 ·have hc:=nP m.W m.H;have hs:af ((bn m.W m.H).1*(bn m.W m.H).2)=dB m.W m.H:=bc (by unfold dB at hc;omega) (by unfold dB at hc;omega)
  simp only[aM,decide_eq_true h.1,Bool.not_true,Bool.false_or];rw[aj bo,ah h,Q6 _ hb,Di];simp only[aM];rw[hs,ah U];exact afA m e m.C _ h.2 (dB m.W m.H).toNat (by rw[hs];simp) U (dB m.W m.H).toNat fuel _ 0 bd U U (by rw[r7];omega) (λc c0 c1=>by omega)
 ·rw[aj h]
  by_cases h1:nz m
  ·have: ¬(0<=e/\e<=4611686018427387904):=λq=>h ⟨h1,q⟩
   simp only[aM,decide_eq_true h1,Bool.not_true,Bool.false_or];rw[ah bo]
  ·simp only[aM,decide_eq_false h1,Bool.not_false,Bool.true_or,if_true]
structure cL (g:bw) (more:Int):Prop where
 ok:nz g.m
 rU: ∀c:Int,0<=c->c<g.m.W*g.m.H->1<=rd g.m.C c/\rd g.m.C c<=255
 vs:(g.p7.length:Int)=dB g.m.W g.m.H
 ep:1<=g.bS/\g.bS+more<=4611686018427387905+1000/\0<=more
def bP (m:aF) (c:Int):Prop:=0<=c/\c<m.W*m.H
instance (m:aF) (c:Int):Decidable (bP m c):=by unfold bP;infer_instance
def iZ (g:bw) (c:Int):Int:=if bP g.m c then rd g.m.C c else 0
def fS (g:bw) (s:Int):Int:=if 0<=s/\s<dB g.m.W g.m.H then rd g.p7 s else 0
def qh (g:bw) (c v:Int):bw:=bw.mk (aF.mk g.m.W g.m.H (aD g.m.C c.toNat v)) (g.bS+1) (aD g.p7 (aQ g.m.W g.m.H c).toNat (g.bS+1))
def Jj (g:bw) (c v:Int):Int×bw:=if ¬bP g.m c then(7,g) else if v<1∨255<v then(8,g) else(0,qh g c v)
variable {g : bw} {more : Int}
theorem Vh (h:cL g more) (c:Int):(if c<0 then(some true) else(some (decide (c≥(aa g.m.C:Int)))))=some (decide (¬bP g.m c)):=by
 have hl:=h.ok.2.1;unfold bP
 by_cases h0:c<0
 ·rw[ah h0,decide_eq_true U]
 ·rw[aj h0,hl];congr 1;rw[nD];simp;omega
theorem rX (h:cL g more) (c:Int):i_.f g c=some (iZ g c):=by
 unfold i_.f iZ;rw[Vh h];have hl:=h.ok.2.1
 by_cases hc:bP g.m c
 ·obtain⟨c0,c1⟩:=hc;have hb:=h.rU c c0 c1;have hc:bP g.m c:=⟨c0,c1⟩;rw[aM,aj (by simpa using hc),ah U,ah hc,bc U U]
 ·rw[aM,ah (by simpa using hc),aj hc]
theorem aaN (h:cL g more) (c v:Int):xw.f g c v=some (Jj g c v):=by
 unfold xw.f Jj;rw[Vh h];have hl:=h.ok.2.1;have hv:=h.vs
 by_cases hc:bP g.m c
 ·obtain⟨c0,c1⟩:=hc;have hc:bP g.m c:=⟨c0,c1⟩;rw[aM,aj (by simpa using hc),aj (c:= ¬bP g.m c) (λq=>q hc)]
  by_cases hq:v<1∨255<v
  ·rw[ah bo,ah hq]
  ·have gw:cR g.m.W g.m.H c:=⟨h.ok.1,c0,c1⟩;have zu:bC g.m.W g.m.H (aQ g.m.W g.m.H c):=by unfold aQ;rw[ah gw];exact EM gw
   have Nv:=h.ep;rw[aj bo,aj hq,ah U,ru,aM,ah (by rw[hv];exact⟨zu.1,zu.2⟩),E7 U U,bc U U]
   rfl
 ·rw[aM,ah (by simpa using hc),ah (c:= ¬bP g.m c) hc]
theorem aeU (h:cL g more) (h1:1<=more) {c v:Int} (hc:bP g.m c) (v0:1<=v) (v1:v<=255):cL (qh g c v) (more-1):=by
 obtain⟨c0,c1⟩:=hc;have hl:=h.ok.2.1;have Nv:=h.ep;have jQ: ∀d:Int,0<=d->d<g.m.W*g.m.H->1<=rd (aD g.m.C c.toNat v) d/\rd (aD g.m.C c.toNat v) d<=255:=λd d0 d1=>by
  rw[A9 c0 U d0];split
  ·exact⟨v0,v1⟩
  ·exact h.rU d d0 d1
 refine⟨⟨h.ok.1,by simp[qh,hl],λhm=>?_⟩,jQ,by simp[qh,h.vs],⟨by simp[qh];omega,by simp[qh];omega,by omega⟩⟩
 obtain⟨i,hi,he⟩:=List.getElem_of_mem hm;have qY:i<(aD g.m.C c.toNat v).length:=hi;rw[nF] at qY;have:=jQ i U U;rw[iP (show(i:Int).toNat<(aD g.m.C c.toNat v).length by rw[nF];omega)] at this
 have he:(aD g.m.C c.toNat v)[i]=0:=he;simp only[Int.toNat_natCast] at this;omega
def lH (m:aF) (c:Int):Bool:=decide (bP m c)&&decide (rd m.C c≠255)
theorem o0 {m:aF} {c:Int}:lH m c=true↔bP m c/\rd m.C c≠255:=by simp[lH]
theorem OE {g:bw} {more:Int} (h:cL g more) (c:Int):uH.f g c=some (lH g.m c):=by
 unfold uH.f;rw[rX h,aM];unfold iZ lH
 by_cases hc:bP g.m c
 ·have:=h.rU c hc.1 hc.2;rw[ah hc,decide_eq_true hc]
  congr 1
  rw[nD];simp;omega
 ·rw[aj hc,decide_eq_false hc];simp
theorem agU {m:aF} (hm:nz m) (c:Int):C6.f m c=some (lH m c):=by
 unfold C6.f lH;have hl:=hm.2.1
 by_cases hc:bP m c
 ·obtain⟨c0,c1⟩:=hc;have hc:bP m c:=⟨c0,c1⟩;rw[ah c0,ah U,ah U,decide_eq_true hc];simp[bne]
  rfl
 ·rw[decide_eq_false hc];unfold bP at hc
  by_cases c0:c≥0
  ·rw[ah c0,aj U];rfl
  ·rw[aj c0];rfl
theorem ahD (m:aF) {c:Int} (hc:c<0):lH m c=false:=by
 unfold lH;rw[decide_eq_false (λq=>by have:=q.1;omega)];rfl
def bM (m:aF) (s:Int):List Int:=(qz m.W m.H s).filter (lH m)
theorem Q5 (w h s:Int):(qz w h s).length<=256:=by
 have:=wO w h s;have:=Q4 w h s ((ay w h s).1*(ay w h s).2).toNat;unfold qz;omega
theorem afM {g:bw} {more:Int} (h:cL g more) (v:List Int) (hv:v.length<=1000): ∀(n k:Nat) (i:Int) (x:List Int),i+n=v.length->0<=i->n<k->x.length<=i.toNat->
 kj.l0 k g v x i=some (x++(v.drop i.toNat).filter (lH g.m)):=by
 intro n
 induction n with
 |zero=>
  intro k i x hi h0 hk hx;obtain⟨k,rfl⟩:=bz hk;rw[kj.l0,aj U,List.drop_of_length_le U];simp
 |succ n ih=>
  intro k i x hi h0 hk hx;obtain⟨k,rfl⟩:=bz hk;rw[kj.l0,ah U,ah U,OE h,aM,bc U U,Mj h0 U]
  by_cases ho:lH g.m (rd v i)=true
  ·rw[ah ho,ah U,ih k (i+1) _ U U U bo,List.filter_cons_of_pos ho];simp
  ·rw[aj ho,ih k (i+1) _ U U U U,List.filter_cons_of_neg ho]
theorem U6 {g:bw} {more:Int} (h:cL g more) (s:Int):kj.f g s=some (bM g.m s):=by
 unfold kj.f;have e0:iL.f g=some (g.m.W,g.m.H):=rfl;have hl:=Q5 g.m.W g.m.H s;rw[e0,aM,aal,aM];have:=afM h (qz g.m.W g.m.H s) U (qz g.m.W g.m.H s).length fuel 0 [] U U (by rw[cY];omega) bd
 exact this
def wJ (m:aF) (c:Int) (n:Nat):List d_:=((List.range n).filter (λj:Nat=>lH m (fi m.W m.H c (j:Int)))).map (λj:Nat=>d_.mk (fi m.W m.H c (j:Int)) (rd m.C (fi m.W m.H c (j:Int))))
def tX (m:aF) (c:Int):List d_:=if lH m c=true then wJ m c 4 else[]
theorem aaD (m:aF) (c:Int) (n:Nat):wJ m c (n+1)=if lH m (fi m.W m.H c (n:Int))=true then wJ m c n++[d_.mk (fi m.W m.H c (n:Int)) (rd m.C (fi m.W m.H c (n:Int)))] else wJ m c n:=by
 unfold wJ;rw[List.range_succ,List.filter_append,List.map_append]
 by_cases h:lH m (fi m.W m.H c (n:Int))=true
 ·rw[ah h];simp[h]
 ·rw[aj h];simp[h]
theorem Rg (m:aF) (c:Int) (n:Nat):(wJ m c n).length<=n:=by
 unfold wJ;rw[List.length_map];have:=List.length_filter_le (λj:Nat=>lH m (fi m.W m.H c (j:Int))) (List.range n);simpa using this
theorem aaE {g:bw} {more:Int} (h:cL g more) (c:Int):nM.f g c=some (tX g.m c):=by
 unfold nM.f tX;have e0:iL.f g=some (g.m.W,g.m.H):=rfl;have e:zd.f=some [0,1,2,3]:=rfl;rw[e0,aM,OE h,aM]
 by_cases ho:lH g.m c=true
 ·rw[aj (by rw[ho];simp),e,aM,ah ho]
  have key: ∀(n k:Nat) (j:Int),j+n=4->0<=j->n<k->nM.l0 k g c (g.m.W,g.m.H) [0,1,2,3] (wJ g.m c j.toNat) j=some (wJ g.m c 4):=by
   intro n
   induction n with
   |zero=>
    intro k j hj h0 hk;obtain⟨k,rfl⟩:=bz hk;rw[nM.l0,aj U];rw[show j.toNat=4 by omega]
   |succ n ih=>
    intro k j hj h0 hk;obtain⟨k,rfl⟩:=bz hk;have hle:=Rg g.m c j.toNat;have:=ih k (j+1) U U U;rw[show(j+1).toNat=j.toNat+1 by omega,aaD,show((j.toNat:Nat):Int)=j by omega] at this
    rw[nM.l0,ah U,WD h0 U,Vk,ah bo,aM,bc U U];have e2:(if fi g.m.W g.m.H c j≥0 then((uH.f g (fi g.m.W g.m.H c j)).bind λv12=>some v12) else(some false))=some (lH g.m (fi g.m.W g.m.H c j)):=by
     by_cases hn:fi g.m.W g.m.H c j≥0
     ·rw[ah hn,OE h];rfl
     ·rw[aj hn,ahD _ U]
    rw[e2,aM]
    by_cases hq:lH g.m (fi g.m.W g.m.H c j)=true
    ·rw[ah hq] at this;have Eb:iZ g (fi g.m.W g.m.H c j)=rd g.m.C (fi g.m.W g.m.H c j):=by unfold iZ;rw[ah (o0.mp hq).1]
     rw[ah hq,rX h,aM,ah U,Eb];exact this
    ·rw[aj hq] at this;rw[aj hq];exact this
  exact key 4 fuel 0 U U (by rw[cY];omega)
 ·rw[ah (by simpa using ho),aj ho]
theorem CF {tw th side:Int} (t0:0<=tw) (t1:tw<=16) (u0:0<=th) (u1:th<=16):0<=qA tw th side/\qA tw th side<=16:=by
 unfold qA;split
 ·omega
 ·split<;>omega
theorem Rh (m:aF) (c:Int):(tX m c).length<=4:=by
 unfold tX;split
 ·exact Rg m c 4
 ·simp
def iY (p:Int->Bool):Nat->Nat
 |0=>0
 |n+1=>iY p n+if p n then 1 else 0
theorem DU (p:Int->Bool): ∀n,iY p n<=n
 |0=>jM _
 |n+1=>by have:=DU p n;unfold iY;split<;>omega
theorem Q9 {p q:Int->Bool}: ∀{n:Nat},(∀i:Int,0<=i->i<n->p i=q i)->iY p n=iY q n
 |0,_=>rfl
 |n+1,h=>by unfold iY;rw[Q9 (λi a b=>h i a U),h n U U]
theorem L_ {p q:Int->Bool} {c:Int}: ∀{n:Nat},0<=c->c<n->p c=true->q c=false->(∀i:Int,0<=i->i<n->i≠c->q i=p i)->iY p n=iY q n+1
 |0,h0,h1,_,_,_=>by omega
 |n+1,h0,h1,hp,hq,he=>by
  unfold iY
  by_cases z:c=n
  ·subst z;rw[hp,hq,Q9 (p:=p) (q:=q) (λi a b=>(he i a U U).symm)];simp
  ·rw[L_ h0 U hp hq (λi a b=>he i a U),he n U U (λy=>z y.symm)];omega
theorem fM {m:aF} (hm:nz m) {c:Int} (h:bP m c):cR m.W m.H c:=⟨hm.1,h.1,h.2⟩
theorem K4 {m:aF} {c s:Int} (h0: ¬bj m.W m.H c s<0):bP m (bj m.W m.H c s):=by
 unfold bj at h0⊢;split at h0
 ·rename_i h;rw[ah h];unfold oe at h0⊢;split at h0
  ·rename_i q;rw[ah q];exact tm q.2.1 q.2.2.1 q.2.2.2.1 q.2.2.2.2
  ·omega
 ·omega
theorem Bk (g:bw):iL.f g=some (g.m.W,g.m.H):=rfl
theorem FZ (g:bw):pz.f g=some g.bS:=rfl
end Go.Proofs.YthodkonhneebbaaGreatDoor
