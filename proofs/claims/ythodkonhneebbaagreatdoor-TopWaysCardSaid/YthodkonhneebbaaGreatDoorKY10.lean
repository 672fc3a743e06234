/- What the functions do, in plain Lean, on the objects that are kept in order. -/
import Derived.KernelRfl
import Derived.Test.YthodkonhneebbaaGreatDoorKY9
import Derived.Test.YthodkonhneebbaaGreatDoorKY7
import Derived.Test.YthodkonhneebbaaGreatDoorKY5
import Derived.Test.YthodkonhneebbaaGreatDoorKY8
namespace Go.Proofs.YthodkonhneebbaaGreatDoor
open Go.Hx
open List renaming length->aa,set->aG,replicate->cy,length_set->mo,append_nil->oq,append_assoc->pn,length_cons->kU,length_nil->tY,length_filter_le->EE,drop_of_length_le->A_,getD_eq_getElem?_getD->alV,getElem?_take_of_lt->alW,mem_cons->nK,not_mem_nil->tZ,length_append->tX,mem_cons_self->jj,take_of_length_le->Cx,mem_cons_of_mem->j6,mem_append_left->wc,mem_append_right->EF,filter_cons->xO
open Int renaming tdiv->dm,toNat->ax,mul_comm->mW,mul_ediv_add_emod->u_,le_refl->dU
open Nat renaming le_refl->l7
open Bool renaming eq_iff_iff->qC,not_true->mV,false_eq_true->gj,not_false->vZ
open Classical renaming byContradiction->jL
set_option linter.unusedVariables false
set_option linter.unusedSimpArgs false
section
theorem Q9 {a b:gD} (ha:rA a CB) (hb:rA b CB):nD.f a b=some ⟨a.bK+b.bK,a.bL+b.bL,a.bH+b.bH,a.bG+b.bG,a.bR+b.bR,a.bM+b.bM⟩:=by
 obtain⟨a1,a2,a3,a4,a5,a6⟩:=ha;obtain⟨b1,b2,b3,b4,b5,b6⟩:=hb;have Oo:CB=1000000000000:=rfl;unfold nD.f mN.f;simp only[aD];have e0: ∀a b c d e f:Int,rd [a,b,c,d,e,f] 0=a:=λ_ _ _ _ _ _=>rfl
 have e1: ∀a b c d e f:Int,rd [a,b,c,d,e,f] 1=b:=λ_ _ _ _ _ _=>rfl
 have e2: ∀a b c d e f:Int,rd [a,b,c,d,e,f] 2=c:=λ_ _ _ _ _ _=>rfl
 have e3: ∀a b c d e f:Int,rd [a,b,c,d,e,f] 3=d:=λ_ _ _ _ _ _=>rfl
 have e4: ∀a b c d e f:Int,rd [a,b,c,d,e,f] 4=e:=λ_ _ _ _ _ _=>rfl
 have e5: ∀a b c d e f:Int,rd [a,b,c,d,e,f] 5=f:=λ_ _ _ _ _ _=>rfl
 have s0: ∀a b c d e f v:Int,aG [a,b,c,d,e,f] (ax 0) v=[v,b,c,d,e,f]:=λ_ _ _ _ _ _ _=>rfl
 have s1: ∀a b c d e f v:Int,aG [a,b,c,d,e,f] (ax 1) v=[a,v,c,d,e,f]:=λ_ _ _ _ _ _ _=>rfl
 have s2: ∀a b c d e f v:Int,aG [a,b,c,d,e,f] (ax 2) v=[a,b,v,d,e,f]:=λ_ _ _ _ _ _ _=>rfl
 have s3: ∀a b c d e f v:Int,aG [a,b,c,d,e,f] (ax 3) v=[a,b,c,v,e,f]:=λ_ _ _ _ _ _ _=>rfl
 have s4: ∀a b c d e f v:Int,aG [a,b,c,d,e,f] (ax 4) v=[a,b,c,d,v,f]:=λ_ _ _ _ _ _ _=>rfl
 have s5: ∀a b c d e f v:Int,aG [a,b,c,d,e,f] (ax 5) v=[a,b,c,d,e,v]:=λ_ _ _ _ _ _ _=>rfl
 have w0:af (0+1)=1:=rfl;have w1:af (1+1)=2:=rfl;have w2:af (2+1)=3:=rfl;have w3:af (3+1)=4:=rfl;have w4:af (4+1)=5:=rfl;have w5:af (5+1)=6:=rfl;simp only[e0,e1,e2,e3,e4,e5];have st: ∀(k:Nat) (x7 x8 x9 aN bj bA y7 y8 y9 AW AX AY i v:Int),0<=i->i<6->tM.f (rd [y7,y8,y9,AW,AX,AY] i) (rd [x7,x8,x9,aN,bj,bA] i)=some v->
  nD.l0 (k+1) x7 x8 x9 aN bj bA y7 y8 y9 AW AX AY i=nD.l0 k x7 x8 x9 aN bj bA (rd (aG [y7,y8,y9,AW,AX,AY] (ax i) v) 0) (rd (aG [y7,y8,y9,AW,AX,AY] (ax i) v) 1) (rd (aG [y7,y8,y9,AW,AX,AY] (ax i) v) 2) (rd (aG [y7,y8,y9,AW,AX,AY] (ax i) v) 3) (rd (aG [y7,y8,y9,AW,AX,AY] (ax i) v) 4) (rd (aG [y7,y8,y9,AW,AX,AY] (ax i) v) 5) (af (i+1)):=by
  intro k x7 x8 x9 aN bj bA y7 y8 y9 AW AX AY i v h0 h1 hv;rw[nD.l0,ag h1,ag ⟨h0,h1⟩,ag ⟨h0,h1⟩,hv,aD,ag ⟨h0,h1⟩]
 obtain⟨k,hk⟩: ∃q,fuel=q+1+1+1+1+1+1+1:=⟨fuel-7,by rw[cI]⟩
 rw[hk];rw[st _ _ _ _ _ _ _ _ _ _ _ _ _ 0 (a.bK+b.bK) U U (by rw[e0,e0];exact AO U U U U)]
 simp only[s0,e0,e1,e2,e3,e4,e5,w0];rw[st _ _ _ _ _ _ _ _ _ _ _ _ _ 1 (a.bL+b.bL) U U (by rw[e1,e1];exact AO U U U U)]
 simp only[s1,e0,e1,e2,e3,e4,e5,w1];rw[st _ _ _ _ _ _ _ _ _ _ _ _ _ 2 (a.bH+b.bH) U U (by rw[e2,e2];exact AO U U U U)]
 simp only[s2,e0,e1,e2,e3,e4,e5,w2];rw[st _ _ _ _ _ _ _ _ _ _ _ _ _ 3 (a.bG+b.bG) U U (by rw[e3,e3];exact AO U U U U)]
 simp only[s3,e0,e1,e2,e3,e4,e5,w3];rw[st _ _ _ _ _ _ _ _ _ _ _ _ _ 4 (a.bR+b.bR) U U (by rw[e4,e4];exact AO U U U U)]
 simp only[s4,e0,e1,e2,e3,e4,e5,w4];rw[st _ _ _ _ _ _ _ _ _ _ _ _ _ 5 (a.bM+b.bM) U U (by rw[e5,e5];exact AO U U U U)]
 simp only[s5,e0,e1,e2,e3,e4,e5,w5];rw[nD.l0,ah U]
structure MY (m:aJ):Prop where
 ok:rC m
 rG: ∀c:Int,0<=c->c<m.W*m.H->1<=rd m.C c/\rd m.C c<=255
 kG:m.W*m.H<=1600
structure Rv (c:d_) (b:Int):Prop where
 gs:cQ c.ay 0
 kG:c.ay.m.W*c.ay.m.H<=1600
 Ga: ∀s:Int,bE c.ay.m.W c.ay.m.H s->1<=fU c.ay s/\fU c.ay s<=c.ay.bS
 ep:c.ay.bS<=b
 ms:A8 c.ay c.iQ
 fs:MT c.ay c.jo
def gI (n:cw):gD:=⟨n.aW.bK+(match n.core with |none=>0 |some c=>c.iQ.count)+n.gd.count.bK,n.aW.bL+(match n.core with |none=>0 |some c=>c.jo.count)+n.gd.count.bL,n.aW.bH+n.gd.count.bH,n.aW.bG+n.gd.count.bG,n.aW.bR+n.gd.count.bR,n.aW.bM+n.gd.count.bM⟩
structure ji (n:cw) (k b:Int) (ord:List Int):Prop where
 pE:sK n.gd.keys k ord
 aW:rA n.aW b
 sc:rA n.gd.count b
 z:n.gd.count.bK=0/\n.gd.count.bL=0
 kO:rA (gI n) b
 none_:n.core=none->n.gd.fields=[]/\ord=[]
 core: ∀c,n.core=some c->Rv c b/\c.iQ.count<=b/\c.jo.count<=b/\Cz c.ay n.gd k ord
def kZ (n:cw):gD:=⟨(match n.core with |none=>0 |some c=>c.iQ.count),(match n.core with |none=>0 |some c=>c.jo.count),0,0,0,0⟩
section
variable {n : cw} {k b : Int} {ord : List Int}
theorem S0 (n:cw):Ap.f n=some (kZ n):=by
 unfold Ap.f kZ
 cases n.core with
 |none=>rfl
 |some c=>rfl
theorem ji.cv (h:ji n k b ord) (hb:0<=b):rA (kZ n) b:=by
 unfold kZ
 cases hc:n.core with
 |none=>exact⟨⟨dU _,hb⟩,⟨dU _,hb⟩,⟨dU _,hb⟩,⟨dU _,hb⟩,⟨dU _,hb⟩,⟨dU _,hb⟩⟩
 |some c=>
  obtain⟨h1,h2,h3,_⟩:=h.core c hc;exact⟨⟨h1.ms.fg.1,h2⟩,⟨h1.fs.fg.1,h3⟩,⟨dU _,hb⟩,⟨dU _,hb⟩,⟨dU _,hb⟩,⟨dU _,hb⟩⟩
theorem aco {x y:gD} {b c:Int} (hx:rA x b) (hy:rA y c):rA ⟨x.bK+y.bK,x.bL+y.bL,x.bH+y.bH,x.bG+y.bG,x.bR+y.bR,x.bM+y.bM⟩ (b+c):=by
 obtain⟨a1,a2,a3,a4,a5,a6⟩:=hx;obtain⟨b1,b2,b3,b4,b5,b6⟩:=hy;exact⟨by simp only;omega,by simp only;omega,by simp only;omega,by simp only;omega,by simp only;omega,by simp only;omega⟩
theorem akm (h:ji n k b ord) (hb:0<=b/\b<=100000000000):DL.f n=some (gI n):=by
 have Oo:CB=1000000000000:=rfl;have HF:=h.cv hb.1;unfold DL.f FY.f;rw[S0,aD,Q9 (h.aW.mono U) (HF.mono U),aD,aD,Q9 ((aco h.aW HF).mono U) (h.sc.mono U)];simp[gI,kZ]
theorem ahX {k:Int} (h1:1<=k) (h2:k<=1000000): ∃n,yL.f k=some (some n)/\ji n k 0 []/\n.core=none/\gI n=⟨0,0,0,0,0,0⟩:=by
 obtain⟨s,e,hs,hf,hc⟩:=aj7 h1 h2;have hz:rA ⟨0,0,0,0,0,0⟩ 0:=⟨by simp,by simp,by simp,by simp,by simp,by simp⟩
 unfold yL.f;rw[ah U,e];exact⟨_,J,⟨hs,hz,by rw[hc];exact hz,by rw[hc];exact⟨J,J⟩,by simp[gI,hc];exact hz,λ_=>⟨hf,J⟩,λc hc=>by simp at hc⟩,J,by simp[gI,hc]⟩
theorem L3 {c:d_} (h:ji n k b ord) (hc:n.core=some c) (x:Int):uA.f n x=some (fh c.ay x):=by
 unfold uA.f;rw[hc]
 show(jq.f c.ay x).bind _=_
 rw[sU (h.core c hc).1.gs];rfl
theorem Xj {c:d_} (hc:n.core=some c):Ao.f n=some (c.ay.m.W,c.ay.m.H):=by
 unfold Ao.f;rw[hc];rfl
theorem ji.mono {b':Int} (h:ji n k b ord) (hb:b<=b'):ji n k b' ord:=
 ⟨h.pE,h.aW.mono hb,h.sc.mono hb,h.z,h.kO.mono hb,h.none_,λc hc=>by
   obtain⟨h1,h2,h3,h4⟩:=h.core c hc;exact⟨⟨h1.gs,h1.kG,h1.Ga,by have:=h1.ep;omega,h1.ms,h1.fs⟩,by omega,by omega,h4⟩⟩
structure Cp (n:cw) (k b:Int) (ord:List Int) (c:d_) (goal s:Int) (r:gk×Er×cw):Prop where
 err:r.2.1=Er.nil
 C2: ∃R l c' r_,qD c.ay R/\R.goal=goal/\l.length<=1025/\(∀y,y∈l↔we c.ay R s y)/\l.Pairwise (λa b=> ¬uJ b a)/\vR (di c.ay.m s) l KF r.1/\
  r.2.2.core=some c'/\c'.ay=c.ay/\c'.jo.kept=some R/\rB c.ay c'.iQ/\c'.iQ.clean=c.ay.bS/\c'.iQ.count=c.iQ.count+(qJ c.ay c.iQ c.iQ.parts.length).length/\
  c.jo.count<=c'.jo.count/\c'.jo.count<=c.jo.count+1/\(Wy c.ay c.jo goal->c'.jo=c.jo)/\
  ji r.2.2 k (b+5000) r_/\Ry c.ay n.gd k ord goal s l (r.1,0,r.2.2.gd)/\r.2.2.aW=n.aW/\iP.f c.ay R s=some l
theorem Xa {c:d_} (h:ji n k b ord) (hb:0<=b/\b<=100000000000) (hc:n.core=some c) {goal s:Int} (hg:bV c.ay.m goal) (hs:bE c.ay.m.W c.ay.m.H s):
 Ok (rY.f n goal s) (Cp n k b ord c goal s):=by
 have Oo:CB=1000000000000:=rfl;obtain⟨eV,wQ,Pg,Ac⟩:=h.core c hc;have hG:=eV.gs;have Fc:=Ha hG hg;have Da:=NX c.ay c.iQ c.iQ.parts.length;have Pt:=eV.ms.len_;have rN:=oE c.ay.m.W c.ay.m.H;unfold rY.f;rw[hc];refine Ok.eq (v:=false) J (Ok.neg aX ?_)
 show Ok ((mB.f c.ay s).bind _) _
 refine Ok.eq ((Ra hG s).trans (by rw[T9 hs])) (Ok.eq (sU hG _) (Ok.neg bf ((ajb hG eV.kG (λs hs=>(eV.Ga s hs).2) eV.fs eV.ms U U hg).bind λv hv=>?_)))
 obtain⟨R,e1,e2,e3,e4,e5,e6,e7,e8,e9,qK,zL⟩:=hv;rw[e1]
 show Ok ((iP.f c.ay R s).bind _) _
 obtain⟨l,el,l1,l2,l3⟩:=Wr hG eV.kG e3 s;refine Ok.eq el ?_;rw[Rk hG,aD];have af6:=aj0 hG (λs hs=>(eV.Ga s hs).2) Ac (h.sc.mono U) hg hs l U (λx hx=>Yz hG eV.kG e3 (by rw[e2];exact hg) hs ((l2 x).1 hx))
 refine(af6.bind' (g:=λv32:gk×Int×jJ=>(v32.1.fi,v32.1.cJ,v32.2.1,v32.2.2)) λq hq=>?_);have HV:=hq.code;obtain⟨f,z,sh⟩:=q;simp only at HV;subst HV;simp only;refine Ok.neg aX (Ok.pure ⟨J,R,l,⟨c.ay,v.2.2,v.2.1⟩,?_⟩);obtain⟨cc,A,B,g1,g2⟩:=hq.sh;obtain⟨k1,k2,k3,k4,k5,k6,k7,k8,k9⟩:=hq.fg;simp only at g1 g2 k1 k2 k3 k4 k5 k6 k7 k8 k9;obtain⟨s1,s2,s3,s4,s5,s6⟩:=h.sc;refine⟨cc::(A++B),e3,e2,l1,l2,l3,hq.C2,J,J,e4,e9,qK,zL,e6,e7,e8,⟨g1.pE,h.aW.mono U,⟨by simp only;omega,by simp only;omega,by simp only;omega,by simp only;omega,by simp only;omega,by simp only;omega⟩,?_,?_,λz=>by simp at z,λc' jr=>?_⟩,hq,J,el⟩
 ·have:=h.z;simp only;omega
 ·have ht:=h.kO;unfold gI at ht⊢;simp only[hc] at ht;obtain⟨t1,t2,t3,t4,t5,t6⟩:=ht;simp only at t1 t2 t3 t4 t5 t6;exact⟨by simp only;omega,by simp only;omega,by simp only;omega,by simp only;omega,by simp only;omega,by simp only;omega⟩
 ·simp only[Option.some.injEq] at jr;subst jr;exact⟨⟨hG,eV.kG,eV.Ga,by have:=eV.ep;simp only;omega,e9.ms,e5⟩,by simp only;omega,by simp only;omega,g1⟩
theorem ahV {c:d_} (h:ji n k b ord) (hc:n.core=some c) {goal s:Int} (gY: ¬(bV c.ay.m goal/\bE c.ay.m.W c.ay.m.H s)):
 rY.f n goal s=some (⟨[],[]⟩,Er.wrap 222 [goal] (Er.dW 3),n):=by
 obtain⟨eV,wQ,Pg,Ac⟩:=h.core c hc;unfold rY.f;rw[hc];simp only[dA,aD,gj,if_false];rw[Ra eV.gs,aD,sU eV.gs,aD,ag]
 by_cases z:bV c.ay.m goal
 ·have: ¬bE c.ay.m.W c.ay.m.H s:=λy=>gY ⟨z,y⟩
  unfold G9;rw[ah this];simp
 ·unfold fh;rw[ah z];simp
theorem W8:Au.f Er.nil=some 0:=rfl
theorem ahO (g:Int):Au.f (Er.wrap 222 [g] (Er.dW 3))=some 7:=rfl
theorem Xb (h:ji n k b ord): ∃n',yI.f n=some n'/\ji n' k b []/\gI n'=gI n/\n'.aW=n.aW/\n'.gd.count=n.gd.count/\
 ((n.core=none/\n'.core=none)∨ ∃c,n.core=some c/\n'.core=some ⟨c.ay,c.iQ,⟨none,c.jo.count⟩⟩):=by
 obtain⟨s,e,hs,hf,jD⟩:=TF h.pE;unfold yI.f;rw[e,aD]
 cases hc:n.core with
 |none=>
  have wB:gI ⟨none,s,n.aW⟩=gI n:=by simp[gI,jD,hc]
  exact⟨_,J,⟨hs,h.aW,by rw[jD];exact h.sc,by rw[jD];exact h.z,by rw[wB];exact h.kO,λ_=>⟨hf,J⟩,λc hc=>by simp at hc⟩,wB,J,jD,.inl ⟨J,J⟩⟩
 |some c=>
  obtain⟨h1,h2,h3,h4⟩:=h.core c hc;have wB:gI ⟨some ⟨c.ay,c.iQ,⟨none,c.jo.count⟩⟩,s,n.aW⟩=gI n:=by simp[gI,jD,hc]
  refine⟨_,J,⟨hs,h.aW,by rw[jD];exact h.sc,by rw[jD];exact h.z,by rw[wB];exact h.kO,λz=>by simp at z,λc' jr=>?_⟩,wB,J,jD,.inr ⟨c,J,J⟩⟩
  ·simp only[Option.some.injEq] at jr;subst jr;exact⟨⟨h1.gs,h1.kG,h1.Ga,h1.ep,h1.ms,⟨λR hR=>by simp at hR,h1.fs.fg⟩⟩,h2,h3,Cz.empty _ hs hf⟩
theorem ahW {c:d_} (h:ji n k b ord) (hc:n.core=some c):w9.f n=some c.ay.m:=by
 obtain⟨eV,_⟩:=h.core c hc;have:=eV.kG;have:=eV.gs.ok.2.1;unfold w9.f;rw[hc];simp only[dA];rw[adF _ U];rfl
theorem Xc (h:ji n k b ord) (hb:0<=b/\b<=100000000000) {m:aJ} (hm:MY m): ∃n' c',yJ.f n m=some (0,n')/\n'.core=some c'/\ji n' k (b+1) []/\c'.ay.m=m/\c'.jo=⟨none,0⟩/\gI n'=gI n/\(∀s:Int,bE m.W m.H s->(rd c'.iQ.parts s).version≠fU c'.ay s)/\n'.gd.count=n.gd.count:=by
 have Oo:CB=1000000000000:=rfl;have Ff:=hm.kG;have hl:=hm.ok.2.1;obtain⟨s,e,hs,hf,jD⟩:=TF h.pE;have HF:=h.cv hb.1;have VZ:=Q9 (h.aW.mono (b':=CB) U) (HF.mono (b':=CB) U);have key: ∀ep:Int,0<=ep->ep<=b-> ∃n' c',((mC.f m ep).bind λv6=>dA v6 none λzl=>(tq.f zl).bind λv7=>dA v7 none λsE=>(uF.f sE zl).bind λv8=>dA v8 none λGe=>(qv.f n.gd).bind λv9=>some ((0:Int),cw.mk (some (d_.mk zl sE Ge)) v9 ⟨n.aW.bK+(kZ n).bK,n.aW.bL+(kZ n).bL,n.aW.bH+(kZ n).bH,n.aW.bG+(kZ n).bG,n.aW.bR+(kZ n).bR,n.aW.bM+(kZ n).bM⟩))=some (0,n')/\n'.core=some c'/\ji n' k (b+1) []/\c'.ay.m=m/\c'.jo=⟨none,0⟩/\gI n'=gI n/\(∀s:Int,bE m.W m.H s->(rd c'.iQ.parts s).version≠fU c'.ay s)/\n'.gd.count=n.gd.count:=by
  intro ep h0 h1;have hgn:KC m ep=some (bx.mk m (ep+1) (cy (dB m.W m.H).toNat (ep+1))):=by unfold KC;rw[ag ⟨hm.ok,h0,by omega⟩]
  rw[adG m ep U,hgn];have rN:=oE m.W m.H;have hG:cQ (bx.mk m (ep+1) (cy (dB m.W m.H).toNat (ep+1))) 0:=⟨hm.ok,hm.rG,by simp;omega,by simp only;omega⟩
  have PK: ∀s:Int,bE m.W m.H s->fU (bx.mk m (ep+1) (cy (dB m.W m.H).toNat (ep+1))) s=ep+1:=λs hs=>by
   unfold fU;rw[ag hs];simp only;rw[uC hs.1 (by have:=hs.2;omega)]
  obtain⟨M,eM,hM,hM0,_,hMv⟩:=ahz hG (λs hs=>by rw[PK s hs];omega)
  simp only[dA,aD,eM,uF.f,e];have ht:=h.kO;have hz:=h.z;have hpc:rA ⟨n.aW.bK+(kZ n).bK,n.aW.bL+(kZ n).bL,n.aW.bH+(kZ n).bH,n.aW.bG+(kZ n).bG,n.aW.bR+(kZ n).bR,n.aW.bM+(kZ n).bM⟩ (b+1):=by
   obtain⟨t1,t2,t3,t4,t5,t6⟩:=ht;obtain⟨s1,s2,s3,s4,s5,s6⟩:=h.sc;obtain⟨p1,p2,p3,p4,p5,p6⟩:=h.aW;obtain⟨v1,v2,v3,v4,v5,v6⟩:=HF;simp only[gI] at t1 t2 t3 t4 t5 t6;simp only[kZ] at v1 v2 v3 v4 v5 v6⊢;exact⟨by simp only;omega,by simp only;omega,by simp only;omega,by simp only;omega,by simp only;omega,by simp only;omega⟩
  have wB: ∀G,gI ⟨some ⟨G,M,⟨none,0⟩⟩,s,⟨n.aW.bK+(kZ n).bK,n.aW.bL+(kZ n).bL,n.aW.bH+(kZ n).bH,n.aW.bG+(kZ n).bG,n.aW.bR+(kZ n).bR,n.aW.bM+(kZ n).bM⟩⟩=gI n:=λG=>by simp only[gI,jD,hM0,kZ];congr 1<;>omega
  refine⟨_,_,J,J,⟨hs,hpc,by rw[jD];exact h.sc.mono U,by rw[jD];exact h.z,by rw[wB];exact ht.mono U,λz=>by simp at z,λc' jr=>?_⟩,J,J,wB _,λs hs=>?_,jD⟩
  ·simp only[Option.some.injEq] at jr;subst jr;refine⟨⟨hG,Ff,λs hs=>?_,by simp only;omega,hM,⟨λR hR=>by simp at hR,by simp⟩⟩,by simp only;omega,by simp only;omega,Cz.empty _ hs hf⟩
   rw[PK s hs];simp only;omega
  ·simp only;rw[hMv s hs,PK s hs];omega
 unfold yJ.f;rw[Sm m U,decide_eq_true hm.ok];simp only[aD,mV,gj,if_false];rw[S0,aD,VZ,aD]
 cases hc:n.core with
 |none=>exact key 0 (dU _) hb.1
 |some c=>
  obtain⟨h1,_⟩:=h.core c hc;have:=h1.gs.ep;exact key c.ay.bS U h1.ep
end
end
section
variable {g : bx} {more : Int}
theorem PW (h:cQ g more) {c v:Int} (hc:bV g.m c) {d:Int} (d0:0<=d):rd (nQ g c v).m.C d=if d=c then v else rd g.m.C d:=by
 have hl:=h.ok.2.1;exact lR hc.1 (by rw[hl];exact hc.2) d0
theorem WM (h:cQ g more) {c v:Int} (hc:bV g.m c) {s:Int} (hs:bE g.m.W g.m.H s) (bD:s≠aQ g.m.W g.m.H c):di (nQ g c v).m s=di g.m s:=by
 have hz:=xv g.m.W g.m.H s
 show aJ.mk _ _ _=aJ.mk _ _ _
 congr 1
 unfold j4;refine List.map_congr_left λl hl=>?_
 have hl:l<((az g.m.W g.m.H s).1*(az g.m.W g.m.H s).2).toNat:=List.mem_range.1 hl;have bZ:=zR hs (l:=(l:Int)) U U;have Ab:=FV hs (l:=(l:Int)) U U
 show rd (nQ g c v).m.C (cn g.m.W g.m.H s l)=_
 rw[PW h hc bZ.1,ah (λz=>bD (by rw[<-z,Ab]))]
theorem acd {w h s c:Int} (hc:c∈q_ w h s):0<=c/\bE w h s/\aQ w h c=s:=by
 unfold q_ vH at hc;obtain⟨l,hl,rfl⟩:=List.mem_map.mp hc;have hz:=xv w h s;have kl:=List.mem_range.mp (List.mem_filter.mp hl).1;have hs:=Q3 (w:=w) (h:=h) (s:=s) (l:=(l:Int)) U U;exact⟨(zR hs U U).1,hs,FV hs U U⟩
theorem ag5 (h:cQ g more) {c v:Int} (hc:bV g.m c) {s:Int} (bD:s≠aQ g.m.W g.m.H c):bO (nQ g c v).m s=bO g.m s:=by
 unfold bO;refine List.filter_congr λd hd=>?_
 obtain⟨d0,_,d2⟩:=acd hd;have hd2:aQ g.m.W g.m.H d=s:=d2;unfold mM;rw[PW h hc d0,ah (λz=>bD (by rw[<-z];exact hd2.symm))]
 rfl
theorem PX (h:cQ g more) {c v:Int} (hc:bV g.m c) {s:Int} (hs:bE g.m.W g.m.H s):fU (nQ g c v) s=if s=aQ g.m.W g.m.H c then g.bS+1 else fU g s:=by
 have kH:=o0 (ir h.ok hc);have Wc:=h.vs;have e:fU (nQ g c v) s=rd (aG g.qA (aQ g.m.W g.m.H c).toNat (g.bS+1)) s:=by unfold fU;exact ag hs
 rw[e,lR kH.1 (by rw[Wc];exact kH.2) hs.1]
 split
 ·rfl
 ·unfold fU;rw[ag hs]
variable {n : cw} {k b : Int} {ord : List Int}
theorem ahR {c:d_} (h:ji n k b ord) (hb:0<=b/\b<=100000000000) (hc:n.core=some c) {x v:Int} (hx:bV c.ay.m x) (v1:1<=v) (v2:v<=255):
 ∃n',yH.f n x v=some (0,n')/\n'.core=some ⟨nQ c.ay x v,c.iQ,c.jo⟩/\n'.gd=n.gd/\n'.aW=n.aW/\ji n' k (b+1) ord/\gI n'=gI n:=by
 obtain⟨eV,wQ,Pg,Ac⟩:=h.core c hc;have hG:=eV.gs;have Pf:=hG.ep;have alx:=eV.ep;have hG1:cQ c.ay 1:=⟨hG.ok,hG.rG,hG.vs,by omega⟩
 have hG':=ag6 hG1 (dU 1) hx v1 v2;unfold yH.f;rw[hc];simp only[dA];rw[acY hG];have e:KB c.ay x v=(0,nQ c.ay x v):=by unfold KB;rw[ah (λq=>q hx),ah U]
 rw[e];have part: ∀s p,bE c.ay.m.W c.ay.m.H s->s≠aQ c.ay.m.W c.ay.m.H x->Cv c.ay.m s p->Cv (nQ c.ay x v).m s p:=λs p hs bD hp=>by
  have e1:=ag5 (v:=v) hG hx bD;have e2:=WM (v:=v) hG hx hs bD;refine⟨by rw[e1];exact hp.nodes,by rw[e1];exact hp.len_,?_⟩
  rw[e1,e2];exact hp.S3
 have wB: ∀G,gI ⟨some ⟨G,c.iQ,c.jo⟩,n.gd,n.aW⟩=gI n:=λG=>by simp[gI,hc]
 refine⟨_,J,J,J,J,⟨h.pE,h.aW.mono U,h.sc.mono U,h.z,by rw[wB];exact h.kO.mono U,λz=>by simp at z,λc' jr=>?_⟩,wB _⟩
 simp only[Option.some.injEq] at jr;subst jr;have wL:(nQ c.ay x v).bS=c.ay.bS+1:=rfl;refine⟨⟨hG',eV.kG,λs hs=>?_,by rw[wL];omega,⟨eV.ms.len_,λs hs=>?_,λs hs e=>?_,λe=>?_,?_,eV.ms.fg⟩,⟨λR hR=>?_,eV.fs.fg⟩⟩,by simp only;omega,by simp only;omega,⟨Ac.pE,Ac.fl,λd d0 d1=>?_⟩⟩
 ·have fZ:bE c.ay.m.W c.ay.m.H s:=hs;have:=eV.Ga s fZ;simp only[wL];rw[PX hG hx fZ];split<;>omega
 ·have:=eV.ms.le s hs;simp only[wL];omega
 ·have fZ:bE c.ay.m.W c.ay.m.H s:=hs;have hle:=eV.ms.le s fZ;simp only at e⊢;rw[PX hG hx fZ] at e
  by_cases z:s=aQ c.ay.m.W c.ay.m.H x
  ·rw[ag z] at e;omega
  ·rw[ah z] at e;exact part s _ fZ z (eV.ms.ok s fZ e)
 ·have:=eV.ms.NN;simp only[wL] at e;omega
 ·have:=eV.ms.NN;simp only[wL];omega
 ·obtain⟨k1,k2,k3⟩:=eV.fs.kept R hR;exact⟨k1,by simp only[wL];omega,λe=>by simp only[wL] at e;omega⟩
 ·obtain⟨s1,s2,s3,s4⟩:=Ac.ok d d0 d1;refine⟨s1,s2,by simp only[wL];omega,λe=>?_⟩
  simp only at e⊢;rw[PX hG hx s2] at e
  by_cases z:(rd n.gd.keys.aw d).key.2=aQ c.ay.m.W c.ay.m.H x
  ·rw[ag z] at e;omega
  ·rw[ah z] at e;have:=s4 e;rw[WM hG hx s2 z];exact this
theorem Xd {c:d_} (h:ji n k b ord) (hb:0<=b/\b<=100000000000) (hc:n.core=some c) (goal x:Int):
 Ok (yK.f n goal x) (λr=>(bV c.ay.m goal/\bV c.ay.m x/\r.2.2.1=0/\ ∃f,Cp n k b ord c goal (aQ c.ay.m.W c.ay.m.H x) (f,Er.nil,r.2.2.2)/\r.1=rd f.fi (cD c.ay.m.W c.ay.m.H x)/\r.2.1=rd f.cJ (cD c.ay.m.W c.ay.m.H x))∨
  (¬(bV c.ay.m goal/\bV c.ay.m x)/\r.2.2.1=7/\r.2.2.2=n)):=by
 obtain⟨eV,_⟩:=h.core c hc;have hG:=eV.gs;unfold yK.f Aq.f;rw[Xj hc,aD,si,aD];simp only
 by_cases z:bV c.ay.m goal/\bV c.ay.m x
 ·have hs:=o0 (ir hG.ok z.2);have mH:=tG hG z.2;refine Ok.bind (P:=λr=>r.2.2.1=Er.nil/\ ∃f,Cp n k b ord c goal (aQ c.ay.m.W c.ay.m.H x) (f,Er.nil,r.2.2.2)/\r.1=rd f.fi (cD c.ay.m.W c.ay.m.H x)/\r.2.1=rd f.cJ (cD c.ay.m.W c.ay.m.H x)) ((Xa h hb hc z.1 hs).bind λr hr=>?_) λr hr=>?_
  ·obtain⟨f,e,n'⟩:=r;have he:=hr.err;simp only at he;subst he;obtain⟨R,l,c',r_,_,_,_,_,_,hF,_⟩:=hr.C2;simp only at hF⊢;refine Ok.neg (by simp[Er.isNil]) (Ok.eq (Is ..) (Ok.cz (by rw[hF.aR.dl];exact⟨mH.1,mH.2.1⟩) (Ok.cz (by rw[hF.dl];exact⟨mH.1,mH.2.1⟩) (Ok.pure ⟨J,f,hr,J,J⟩))))
  ·rw[hr.1];exact Ok.eq W8 (Ok.pure (.inl ⟨z.1,z.2,J,hr.2⟩))
 ·have gY: ¬(bV c.ay.m goal/\bE c.ay.m.W c.ay.m.H (aQ c.ay.m.W c.ay.m.H x)):=λy=>z ⟨y.1,by
   have jr:bQ c.ay.m.W c.ay.m.H x:=jL λw=>by
    have:=AK.2 w;have:=y.2.1;omega
   exact jr.2⟩
  rw[ahV h hc gY];refine Ok.bind (P:=λr=>r.2.2.1=Er.wrap 222 [goal] (Er.dW 3)/\r.2.2.2=n) (Ok.eq J (Ok.pos J (Ok.pure ⟨J,J⟩))) λr hr=>?_
  rw[hr.1];exact Ok.eq (ahO goal) (Ok.pure (.inr ⟨z,J,hr.2⟩))
end
def MU (w h:Int) (l:List aI) (j:Int):Prop:=
 (if j=0 then-1 else(rd l (j-1)).Id)<(rd l j).Id/\bQ w h (rd l j).Cell/\bQ w h (rd l j).Goal/\ ∀q,0<=q->q<j->(rd l q).Cell≠(rd l j).Cell
def iL (w h:Int) (l:List aI):Prop:=gS w h/\ ∀j:Int,0<=j->j<l.length->MU w h l j
theorem ahm {w h:Int} {l:List aI} (hb:l.length<=4611686018427387000): ∀(n k:Nat) (i:Int) (m:List (Int×Bool)),i+n=l.length->0<=i->n<k->
 (∀c,aP m c=true↔ ∃q,0<=q/\q<i/\(rd l q).Cell=c)->
 ∃r,qm.l0 k w h l (if i=0 then-1 else(rd l (i-1)).Id) m i=some r/\(r=true↔ ∀j,i<=j->j<l.length->MU w h l j):=by
 intro n
 induction n with
 |zero=>
  intro k i m hi h0 hk hm;obtain⟨k,rfl⟩:=bl hk;exact⟨true,by rw[qm.l0,ah U],⟨λ_ j j0 j1=>by omega,λ_=>rfl⟩⟩
 |succ n ih=>
  intro k i m hi h0 hk hm;obtain⟨k,rfl⟩:=bl hk;rw[qm.l0,ag U,ag U];simp only[si,aD]
  by_cases g:MU w h l i
  ·obtain⟨g1,g2,g3,g4⟩:=g;have Dh:aP m (rd l i).Cell=false:=by
    rw[Bool.eq_false_iff];intro q;obtain⟨z,z0,z1,z2⟩:=(hm _).1 q;exact g4 z z0 z1 z2
   have s1: ¬aQ w h (rd l i).Cell<0:=λq=>AK.1 q g2
   have s2: ¬aQ w h (rd l i).Goal<0:=λq=>AK.1 q g3
   rw[ah U,ah s1,ah s2,Dh];simp only[aD,gj,if_false];rw[wi U U];obtain⟨r,r1,r2⟩:=ih k (i+1) (cF m (rd l i).Cell true) U U U (λc=>by
    rw[rX]
    by_cases e:(rd l i).Cell=c
    ·rw[ag e];exact⟨λ_=>⟨i,h0,by omega,e⟩,λ_=>rfl⟩
    ·rw[ah e,hm c];constructor
     ·rintro⟨q,q0,q1,q2⟩;exact⟨q,q0,by omega,q2⟩
     ·rintro⟨q,q0,q1,q2⟩
      by_cases z:q=i
      ·subst z;exact absurd q2 e
      ·exact⟨q,q0,by omega,q2⟩)
   rw[ah U,show i+1-1=i by omega] at r1
   refine⟨r,r1,r2.trans ⟨λq j j0 j1=>?_,λq j j0 j1=>q j U j1⟩⟩
   by_cases z:j=i
   ·subst z;exact⟨g1,g2,g3,g4⟩
   ·exact q j U j1
  ·have hf: ∀last,last=(if i=0 then-1 else(rd l (i-1)).Id)->((if(rd l i).Id<=last then(some true) else(if aQ w h (rd l i).Cell<0 then(some true) else(if aQ w h (rd l i).Goal<0 then(some true) else(some (aP m (rd l i).Cell))))):Option Bool)=some true:=by
    intro last hla
    by_cases a:(rd l i).Id<=last
    ·rw[ag a]
    ·rw[ah a]
     by_cases b:aQ w h (rd l i).Cell<0
     ·rw[ag b]
     ·rw[ah b]
      by_cases c:aQ w h (rd l i).Goal<0
      ·rw[ag c]
      ·rw[ah c]
       congr 1
       rw[hm];refine jL λq=>g ⟨by rw[<-hla];omega,jL λz=>b (AK.2 z),jL λz=>c (AK.2 z),λz z0 z1 z2=>q ⟨z,z0,z1,z2⟩⟩
   rw[hf _ J];simp only[aD,if_true];exact⟨false,J,⟨λq=>(by cases q),λq=>absurd (q i U U) g⟩⟩
theorem XE {w h:Int} {l:List aI} (hb:l.length<=4611686018427387000): ∃r,qm.f w h l=some r/\(r=true↔iL w h l):=by
 unfold qm.f;rw[An,aD]
 by_cases hm:gS w h
 ·rw[ah (by simpa using hm)]
  obtain⟨r,r1,r2⟩:=ahm (w:=w) (h:=h) hb l.length fuel 0 [] U U (by rw[cI];omega) (λc=>by
   constructor
   ·intro q;simp[aP,cN] at q
   ·rintro⟨q,q0,q1,_⟩;omega)
  rw[ag J] at r1;exact⟨r,r1,r2.trans ⟨λq=>⟨hm,q⟩,λq=>q.2⟩⟩
 ·rw[ag (by rw[decide_eq_false hm];rfl)]
  exact⟨false,J,⟨λq=>(by cases q),λq=>absurd q.1 hm⟩⟩
theorem iL.cell {w h:Int} {l:List aI} (hm:iL w h l) {j:Int} (j0:0<=j) (j1:j<l.length):bQ w h (rd l j).Cell:=(hm.2 j j0 j1).2.1
theorem iL.apart {w h:Int} {l:List aI} (hm:iL w h l) {i j:Int} (i0:0<=i) (i1:i<l.length) (j0:0<=j) (j1:j<l.length) (tj:i≠j):(rd l i).Cell≠(rd l j).Cell:=by
 rcases Int.lt_or_gt_of_ne tj with q |q
 ·exact(hm.2 j j0 j1).2.2.2 i i0 q
 ·exact λe=>(hm.2 i i0 i1).2.2.2 j j0 q e.symm
theorem iL.ids {w h:Int} {l:List aI} (hm:iL w h l): ∀(n:Nat) (i j:Int),j=i+n->0<=i->0<n->j<l.length->(rd l i).Id<(rd l j).Id:=by
 intro n
 induction n with
 |zero=>intro i j _ _ h;omega
 |succ n ih=>
  intro i j hj i0 _ j1;have h1:=(hm.2 j U j1).1;rw[ah U] at h1
  by_cases hn:n=0
  ·have:j-1=i:=U;rw[this] at h1;exact h1
  ·have:=ih i (j-1) U i0 U U;omega
theorem iL.Dq {w h:Int} {l:List aI} (hm:iL w h l) {i j:Int} (i0:0<=i) (tj:i<j) (j1:j<l.length):(rd l i).Id<(rd l j).Id:=
 hm.ids (j-i).toNat i j U i0 U j1
def vi:List Int->List aI->List Int
 |acc,[]=>acc
 |acc,u::r=>vi (if u.Goal∈acc then acc else acc++[u.Goal]) r
def mz (l:List aI):List Int:=vi [] l
theorem TT: ∀(l:List aI) (acc:List Int),(vi acc l).length<=acc.length+l.length
 |[],acc=>by simp[vi]
 |u::r,acc=>by
  have:=TT r (if u.Goal∈acc then acc else acc++[u.Goal])
  simp only[vi,kU];split at this<;>rename_i h
  ·rw[ag h];omega
  ·rw[ah h];simp only[tX,kU,tY] at this;omega
theorem TU: ∀(l:List aI) (acc:List Int) (g:Int),g∈vi acc l↔g∈acc∨ ∃u∈l,u.Goal=g
 |[],acc,g=>by simp[vi]
 |u::r,acc,g=>by
  simp only[vi];rw[TU r _ g]
  by_cases h:u.Goal∈acc
  ·rw[ag h];constructor
   ·rintro(q |⟨x,x1,x2⟩)
    ·exact .inl q
    ·exact .inr ⟨x,j6 _ x1,x2⟩
   ·rintro(q |⟨x,x1,x2⟩)
    ·exact .inl q
    ·rcases List.mem_cons.1 x1 with rfl |x1
     ·exact .inl (x2▸h)
     ·exact .inr ⟨x,x1,x2⟩
  ·rw[ah h];constructor
   ·rintro(q |⟨x,x1,x2⟩)
    ·rcases List.mem_append.1 q with q |q
     ·exact .inl q
     ·exact .inr ⟨u,jj ..,(List.mem_singleton.1 q).symm⟩
    ·exact .inr ⟨x,j6 _ x1,x2⟩
   ·rintro(q |⟨x,x1,x2⟩)
    ·exact .inl (wc _ q)
    ·rcases List.mem_cons.1 x1 with rfl |x1
     ·exact .inl (EF _ (by simp[x2]))
     ·exact .inr ⟨x,x1,x2⟩
theorem TV: ∀(l:List aI) (acc:List Int),acc.Nodup->(vi acc l).Nodup
 |[],acc,h=>h
 |u::r,acc,h=>by
  simp only[vi];refine TV r _ ?_;split
  ·exact h
  ·rename_i q;rw[List.nodup_append];exact⟨h,by simp,λa ha b hb=>by simp at hb;subst hb;intro e;subst e;exact q ha⟩
theorem TW (l:List aI):(mz l).length<=l.length:=by
 have:=TT l [];unfold mz;simpa using this
theorem Oi (l:List aI):(mz l).Nodup:=TV l [] List.nodup_nil
theorem TX (l:List aI) (g:Int):g∈mz l↔ ∃u∈l,u.Goal=g:=by
 have:=TU l [] g;unfold mz;simpa using this
theorem aim {l:List aI} (hb:l.length<=1000000): ∀(n k:Nat) (i:Int) (acc:List Int) (m:List (Int×Bool)),i+n=l.length->0<=i->n<k->(acc.length:Int)<=i->
 (∀c,aP m c=true↔c∈acc)->oV.l0 k l acc m i=some (vi acc (l.drop i.toNat)):=by
 intro n
 induction n with
 |zero=>
  intro k i acc m hi h0 hk ha hm;obtain⟨k,rfl⟩:=bl hk;rw[oV.l0,ah U,A_ U];rfl
 |succ n ih=>
  intro k i acc m hi h0 hk ha hm;obtain⟨k,rfl⟩:=bl hk;rw[oV.l0,ag U,ag U,CV h0 U];simp only[vi]
  by_cases h:(rd l i).Goal∈acc
  ·rw[ah (by rw[(hm _).2 h];decide),ag h,wi U U]
   exact ih k (i+1) acc m U U U U hm
  ·have:aP m (rd l i).Goal=false:=by rw[Bool.eq_false_iff];exact λq=>h ((hm _).1 q)
   rw[ag (by rw[this];rfl),ah h,ag U,wi U U]
   refine ih k (i+1) _ _ U U U bf (λc=>?_);rw[rX]
   by_cases e:(rd l i).Goal=c
   ·rw[ag e];simp[e]
   ·rw[ah e,hm c];simp[Ne.symm e]
theorem ail {l:List aI} (hb:l.length<=1000000):oV.f l=some (mz l):=by
 unfold oV.f;have:=aim hb l.length fuel 0 [] [] U U (by rw[cI];omega) aX (λc=>by simp[aP,cN])
 unfold mz;simpa using this
def jO:List cA->Int->Int->Int->List cA
 |[],g,s,id=>[⟨g,s,[id]⟩]
 |p::r,g,s,id=>if p.ft=s then⟨p.Goal,p.ft,p.dj++[id]⟩::r else p::jO r g s id
def fN:List cA->Int->Nat
 |[],_=>0
 |p::r,s=>if p.ft=s then 0 else fN r s+1
def gG (w h g:Int):List aI->List cA->List cA
 |[],ps=>ps
 |u::r,ps=>gG w h g r (if u.Goal=g then jO ps g (aQ w h u.Cell) u.Id else ps)
def km (w h:Int) (l:List aI):List cA:=(mz l).flatMap λg=>gG w h g l []
theorem rd0 {α:Type} [Inhabited α] (x:α) (l:List α):rd (x::l) 0=x:=rfl
theorem Qz {α:Type} [Inhabited α] (x:α) (l:List α) (n:Nat):rd (x::l) ((n+1:Nat):Int)=rd l (n:Int):=QA x l n
theorem Qr: ∀(ps:List cA) (s:Int),fN ps s<=ps.length
 |[],_=>by simp[fN]
 |p::r,s=>by have:=Qr r s;simp only[fN,kU];split<;>omega
theorem RP: ∀(ps:List cA) (g s id:Int),fN ps s<ps.length->
 jO ps g s id=ps.set (fN ps s) ⟨(rd ps (fN ps s:Int)).Goal,(rd ps (fN ps s:Int)).ft,(rd ps (fN ps s:Int)).dj++[id]⟩
 |[],_,_,_,h=>by simp at h
 |p::r,g,s,id,h=>by
  simp only[jO,fN]
  by_cases e:p.ft=s
  ·rw[ag e,ag e];rfl
  ·simp only[fN,ah e,kU] at h;rw[ah e,ah e,RP r g s id U,Qz];rfl
theorem RS: ∀(ps:List cA) (g s id:Int),fN ps s=ps.length->jO ps g s id=ps++[⟨g,s,[id]⟩]
 |[],_,_,_,_=>rfl
 |p::r,g,s,id,h=>by
  simp only[jO]
  by_cases e:p.ft=s
  ·simp only[fN,ag e,kU] at h;omega
  ·simp only[fN,ah e,kU] at h;rw[ah e,RS r g s id U];rfl
theorem RR: ∀(ps:List cA) (g s id:Int),(jO ps g s id).length<=ps.length+1/\ps.length<=(jO ps g s id).length
 |[],_,_,_=>by simp[jO]
 |p::r,g,s,id=>by have:=RR r g s id;simp only[jO];split<;>simp<;>omega
def lO:List cA->Nat
 |[]=>0
 |p::r=>p.dj.length+lO r
theorem aii (a b:List cA):lO (a++b)=lO a+lO b:=by
 induction a with
 |nil=>simp[lO]
 |cons p r ih=>simp[lO,ih];omega
theorem Ng: ∀(ps:List cA) (g s id:Int),lO (jO ps g s id)=lO ps+1
 |[],_,_,_=>by simp[jO,lO]
 |p::r,g,s,id=>by have:=Ng r g s id;simp only[jO];split<;>simp[lO]<;>omega
theorem XC: ∀(ps:List cA) (i:Int),0<=i->i<ps.length->(rd ps i).dj.length<=lO ps:=by
 intro ps
 induction ps with
 |nil=>intro i h0 h1;simp at h1;omega
 |cons p r ih=>
  intro i h0 h1;simp only[kU] at h1
  by_cases e:i=0
  ·subst e;rw[rd0];simp[lO]
  ·have:=ih (i-1) U U;have e2:i=(((i-1).toNat+1:Nat):Int):=U;rw[e2,Qz,show(((i-1).toNat:Nat):Int)=i-1 by omega]
   simp only[lO];omega
theorem TZ (w h g:Int): ∀(l m:List aI) (ps:List cA),gG w h g (l++m) ps=gG w h g m (gG w h g l ps)
 |[],m,ps=>rfl
 |u::r,m,ps=>by simp only[List.cons_append,gG];exact TZ w h g r m _
theorem Om (w h g:Int): ∀(l:List aI) (ps:List cA),(gG w h g l ps).length<=ps.length+l.length/\lO (gG w h g l ps)<=lO ps+l.length
 |[],ps=>by simp[gG]
 |u::r,ps=>by
  have h1:=Om w h g r (if u.Goal=g then jO ps g (aQ w h u.Cell) u.Id else ps)
  have h2:=RR ps g (aQ w h u.Cell) u.Id;have h3:=Ng ps g (aQ w h u.Cell) u.Id;simp only[gG,kU]
  by_cases e:u.Goal=g
  ·rw[ag e] at h1⊢;omega
  ·rw[ah e] at h1⊢;omega
structure PI (w h:Int) (l:List aI) (i:Int) (m:List (Int×List cA)) (at':List ((Int×Int)×Int)):Prop where
 of: ∀g,aP m g=gG w h g (l.take i.toNat) []
 has: ∀g s,bt at' (g,s)=true↔fN (gG w h g (l.take i.toNat) []) s<(gG w h g (l.take i.toNat) []).length
 place: ∀g s,bt at' (g,s)=true->aP at' (g,s)=(fN (gG w h g (l.take i.toNat) []) s:Int)
theorem Xz: ∀(ps:List cA) (g s:Int) (ids:List Int) (t:Int),fN ps s=ps.length->fN (ps++[⟨g,s,ids⟩]) t=if t=s then ps.length else fN ps t+if fN ps t=ps.length then 1 else 0:=by
 intro ps
 induction ps with
 |nil=>intro g s ids t h;simp[fN];split<;>split<;>(try omega)<;>simp_all
 |cons p r ih=>
  intro g s ids t h
  by_cases e:p.ft=s
  ·simp only[fN,ag e,kU] at h;omega
  ·simp only[fN,ah e,kU] at h;have hih:=ih g s ids t U;rw[List.cons_append,kU]
   by_cases y:p.ft=t
   ·have a1:fN (p::(r++[(⟨g,s,ids⟩:cA)])) t=0:=ag y;have a2:fN (p::r) t=0:=ag y;have z: ¬t=s:=λq=>e (y.trans q);rw[a1,a2,ah z,ah U]
   ·have a1:fN (p::(r++[(⟨g,s,ids⟩:cA)])) t=fN (r++[(⟨g,s,ids⟩:cA)]) t+1:=ah y;have a2:fN (p::r) t=fN r t+1:=ah y;rw[a1,a2,hih]
    by_cases z:t=s
    ·rw[ag z,ag z]
    ·rw[ah z,ah z]
     by_cases x:fN r t=r.length
     ·rw[ag x,ag U]
     ·rw[ah x,ah U]
theorem XA: ∀(ps:List cA) (j:Nat) (q:cA) (t:Int),j<ps.length->q.ft=(rd ps (j:Int)).ft->fN (ps.set j q) t=fN ps t:=by
 intro ps
 induction ps with
 |nil=>intro j q t h;simp at h
 |cons p r ih=>
  intro j q t h hq
  cases j with
  |zero=>simp only[List.set_cons_zero,fN];rw[hq];rfl
  |succ j=>
   simp only[List.set_cons_succ,fN];rw[ih j q t (by simpa using h) (by rw[Qz] at hq;exact hq)]
theorem ahu {m:List (Int×List cA)} {g:Int} (h:aP m g≠[]):bt m g=true:=by
 unfold bt;unfold aP at h
 cases e:cN m g with
 |none=>rw[e] at h;exact absurd J h
 |some _=>rfl
theorem W4 {m:List (Int×List cA)} {g:Int} (v:List cA) (h:bt m g=true) (g':Int):aP (ux m g v) g'=if g=g' then v else aP m g':=by
 unfold ux;rw[ag h,rX]
theorem akD {w h:Int} {l:List aI} {i:Int} (h0:0<=i) (h1:i<l.length) (g:Int):
 gG w h g (l.take (i+1).toNat) []=if(rd l i).Goal=g then jO (gG w h g (l.take i.toNat) []) g (aQ w h (rd l i).Cell) (rd l i).Id else gG w h g (l.take i.toNat) []:=by
 rw[Jn h0 h1,TZ];rfl
theorem pl1 {w h:Int} {l:List aI} (hb:l.length<=1000000) {m:List (Int×List cA)} (hm: ∀g,aP m g=gG w h g l []): ∀(n k:Nat) (i:Int) (gone:List Int) (out:List cA),i+n=(mz l).length->0<=i->n<k->
 (∀g,g∈gone↔g∈(mz l).take i.toNat)->(out.length:Int)<=i*1000000->kK.l1 k (mz l) m gone out i=some (out++((mz l).drop i.toNat).flatMap λg=>gG w h g l []):=by
 have hg:=TW l;have rQ:=Oi l;intro n
 induction n with
 |zero=>
  intro k i gone out hi h0 hk ho hl;obtain⟨k,rfl⟩:=bl hk;rw[kK.l1,ah U,A_ U];simp
 |succ n ih=>
  intro k i gone out hi h0 hk ho hl;obtain⟨k,rfl⟩:=bl hk;have hlen:=Om w h (rd (mz l) i) l [];simp only[tY,Nat.zero_add,show lO ([]:List cA)=0 from rfl] at hlen
  have hmul:i*1000000+1000000<=1000000000000:=U;rw[kK.l1,ag U,ag U,ag,hm,ag U,wi U U,CV h0 U]
  ·rw[ih k (i+1) _ _ U U U ?_ ?_]
   ·simp
   ·intro g;rw[Jn h0 U];simp only[nK,List.mem_append,tZ,or_false,ho g];exact or_comm
   ·simp only[tX];omega
  ·rw[ho];intro bZ;obtain⟨j,j0,j1,j2⟩:=ka bZ;simp only[List.length_take] at j1;have e1:rd ((mz l).take i.toNat) j=rd (mz l) j:=by
    unfold rd;rw[alV,alV,alW U]
   rw[e1] at j2;have:=vD rQ (i:=j) (j:=i) j0 U U;exact this j2
theorem pl0 {w h:Int} {l:List aI} (hb:l.length<=1000000): ∀(n k:Nat) (i:Int) (m:List (Int×List cA)) (at':List ((Int×Int)×Int)),i+n=l.length->0<=i->n<k->
 PI w h l i m at'->kK.l0 k w h l m at' i=some (km w h l):=by
 intro n
 induction n with
 |zero=>
  intro k i m at' hi h0 hk hp;obtain⟨k,rfl⟩:=bl hk;rw[kK.l0,ah U,ail hb,aD];have hg:=TW l;have:=pl1 (w:=w) (h:=h) hb (m:=m) (λg=>by rw[hp.of g,Cx U]) (mz l).length fuel 0 [] [] U U (by rw[cI];omega) (λg=>by simp) aX
  simpa[km] using this
 |succ n ih=>
  intro k i m at' hi h0 hk hp;obtain⟨k,rfl⟩:=bl hk;rw[kK.l0,ag U,ag U,si,aD];have Bu:=hp.of;have hlen:=λg=>Om w h g (l.take i.toNat) [];simp only[tY,Nat.zero_add,List.length_take] at hlen;generalize hg:(rd l i).Goal=g0 at*;generalize hs:aQ w h (rd l i).Cell=s0 at*;have hL:=hlen g0;generalize pC:gG w h g0 (l.take i.toNat) []=ps at*;have hT: ∀g,gG w h g (l.take (i+1).toNat) []=if g0=g then jO ps g0 s0 (rd l i).Id else gG w h g (l.take i.toNat) []:=λg=>by
   rw[akD h0 U,hg,hs]
   by_cases e:g0=g
   ·subst e;rw[ag rfl,ag rfl,pC]
   ·rw[ah e,ah e]
  have alF:lO ([]:List cA)=0:=rfl
  by_cases Bs:bt at' (g0,s0)=true
  ·have bZ:=(hp.has g0 s0).1 Bs;have nT:=hp.place g0 s0 Bs;rw[pC] at bZ nT;rw[ah (by rw[Bs];decide)]
   simp only[aD];rw[nT,Bu g0,pC,ag U];have Fh:=XC ps (fN ps s0) U U;rw[ag U];simp only[aD];rw[wi U U];have Pr:bt m g0=true:=ahu (by rw[Bu g0,pC];intro e;rw[e] at bZ;simp at bZ)
   have ea:=RP ps g0 s0 (rd l i).Id bZ;rw[show((fN ps s0:Int)).toNat=fN ps s0 by omega]
   refine ih k (i+1) _ _ U U U ⟨λg=>?_,λg s=>?_,λg s hh=>?_⟩
   ·rw[W4 _ Pr,hT]
    by_cases e:g0=g
    ·rw[ag e,ag e,ea]
    ·rw[ah e,ah e,Bu]
   ·rw[hT]
    by_cases e:g0=g
    ·subst e;rw[ag J,ea,XA _ _ _ _ bZ (by rfl),mo,hp.has g0 s,pC]
    ·rw[ah e,hp.has]
   ·rw[hT]
    by_cases e:g0=g
    ·subst e;rw[ag J,ea,XA _ _ _ _ bZ (by rfl),hp.place g0 s hh,pC]
    ·rw[ah e,hp.place _ _ hh]
  ·have Px:fN ps s0=ps.length:=by
    have h1:=Qr ps s0;have h2: ¬fN ps s0<ps.length:=λq=>Bs ((hp.has g0 s0).2 (by rw[pC];exact q))
    omega
   have Bt:bt at' (g0,s0)=false:=by rw[Bool.eq_false_iff];exact Bs
   rw[ag (by rw[Bt];rfl),Bu g0,pC,ag U]
   simp only[aD,rX,if_true];have hr:rd (ps++[(⟨g0,s0,[]⟩:cA)]) (ps.length:Int)=⟨g0,s0,[]⟩:=by rw[QB U U,ag J]
   rw[hr,ag bf,ag aX];simp only[aD];rw[wi U U];have Pr:bt (cF m g0 (ps++[(⟨g0,s0,[]⟩:cA)])) g0=true:=by rw[Fy];simp
   have ea:=RS ps g0 s0 (rd l i).Id Px;have es:aG (ps++[(⟨g0,s0,[]⟩:cA)]) (ax (ps.length:Int)) ⟨g0,s0,[]++[(rd l i).Id]⟩=ps++[⟨g0,s0,[(rd l i).Id]⟩]:=by
    rw[show((ps.length:Int)).toNat=ps.length by omega,List.set_append_right _ _ U];simp
   rw[es];refine ih k (i+1) _ _ U U U ⟨λg=>?_,λg s=>?_,λg s hh=>?_⟩
   ·rw[W4 _ Pr,hT]
    by_cases e:g0=g
    ·rw[ag e,ag e,ea]
    ·rw[ah e,ah e,rX,ah e,Bu]
   ·rw[hT,Fy]
    by_cases e:g0=g
    ·subst e;rw[ag J,ea,Xz _ _ _ _ _ Px,tX]
     by_cases z:s=s0
     ·subst z;simp
     ·have h1:=hp.has g0 s;have h2:=Qr ps s;rw[pC] at h1;rw[ah z];simp only[Prod.mk.injEq,true_and,kU,tY,Bool.or_eq_true,decide_eq_true_eq,h1]
      by_cases y:fN ps s=ps.length
      ·rw[ag y];omega
      ·rw[ah y];omega
    ·rw[ah e,<-hp.has];simp[e]
   ·rw[hT,rX]
    by_cases e:g0=g
    ·subst e;rw[ag J,ea,Xz _ _ _ _ _ Px]
     by_cases z:s=s0
     ·subst z;simp
     ·have bD: ¬((g0,s0)=(g0,s)):=λq=>z (Prod.mk.inj q).2.symm;rw[ah bD,ah z];rw[Fy] at hh;simp only[bD,decide_false,Bool.false_or] at hh;have h1:=(hp.has g0 s).1 hh;rw[pC] at h1;rw[hp.place _ _ hh,pC,ah U];rfl
    ·have bD: ¬((g0,s0)=(g,s)):=λq=>e (Prod.mk.inj q).1;rw[ah e,ah bD];rw[Fy] at hh;simp only[bD,decide_false,Bool.false_or] at hh;exact hp.place _ _ hh
theorem ait {w h:Int} {l:List aI} (hb:l.length<=1000000) (hm:iL w h l):kK.f w h l=some (km w h l):=by
 obtain⟨r,r1,r2⟩:=XE (w:=w) (h:=h) (l:=l) U;unfold kK.f;rw[r1,aD,ah (by rw[r2.2 hm];decide)]
 exact pl0 hb l.length fuel 0 [] [] U U (by rw[cI];omega) ⟨λg=>by simp[aP,cN,gG];rfl,λg s=>by simp[bt,cN,gG,fN],λg s hh=>by simp[bt,cN] at hh⟩
structure GI (w h g:Int) (l:List aI) (ps:List cA):Prop where
 goal: ∀p∈ps,p.Goal=g
 apart:ps.Pairwise λa b=>a.ft≠b.ft
 some_: ∀p∈ps,p.dj≠[]
 of: ∀p∈ps,∀id∈p.dj,∃u∈l,u.Id=id/\u.Goal=g/\aQ w h u.Cell=p.ft
 up: ∀p∈ps,p.dj.Pairwise (· < ·)
theorem GD: ∀(ps:List cA) (g s id:Int) (p:cA),p∈jO ps g s id->p∈ps∨p=⟨g,s,[id]⟩∨ ∃q∈ps,q.ft=s/\p=⟨q.Goal,q.ft,q.dj++[id]⟩
 |[],g,s,id,p,h=>by simp only[jO,List.mem_singleton] at h;exact .inr (.inl h)
 |q::r,g,s,id,p,h=>by
  simp only[jO] at h;split at h
  ·rename_i e;rcases List.mem_cons.1 h with h |h
   ·exact .inr (.inr ⟨q,jj ..,e,h⟩)
   ·exact .inl (j6 _ h)
  ·rcases List.mem_cons.1 h with h |h
   ·exact .inl (h▸jj ..)
   ·rcases GD r g s id p h with h |h |⟨z,h1,h2⟩
    ·exact .inl (j6 _ h)
    ·exact .inr (.inl h)
    ·exact .inr (.inr ⟨z,j6 _ h1,h2⟩)
theorem RT: ∀(ps:List cA) (g s id:Int),(jO ps g s id).map (·.ft)=if s∈ps.map (·.ft) then ps.map (·.ft) else ps.map (·.ft)++[s]
 |[],g,s,id=>by simp[jO]
 |q::r,g,s,id=>by
  have:=RT r g s id;simp only[jO]
  by_cases e:q.ft=s
  ·rw[ag e];simp[e]
  ·rw[ah e];simp only[List.map_cons,this,nK]
   by_cases z:s∈r.map (·.ft)
   ·rw[ag z,ag (.inr z)]
   ·rw[ah z,ah (by rintro(y |y);exact e y.symm;exact z y)];rfl
theorem GI.step {w h g:Int} {l:List aI} {ps:List cA} {u:aI} (hi:GI w h g l ps) (hu: ∀x∈l,x.Id<u.Id) (hg:u.Goal=g):GI w h g (l++[u]) (jO ps g (aQ w h u.Cell) u.Id):=by
 refine⟨λp hp=>?_,?_,λp hp=>?_,λp hp id nj=>?_,λp hp=>?_⟩
 ·rcases GD _ _ _ _ _ hp with q |q |⟨z,z1,z2,z3⟩
  ·exact hi.goal p q
  ·rw[q]
  ·rw[z3];exact hi.goal z z1
 ·have h1:(ps.map (·.ft)).Pairwise (· ≠ ·):=List.pairwise_map.2 hi.apart;have h2:((jO ps g (aQ w h u.Cell) u.Id).map (·.ft)).Pairwise (· ≠ ·):=by
   rw[RT];split
   ·exact h1
   ·rename_i z;rw[List.pairwise_append];exact⟨h1,by simp,λa ha b hb=>by simp at hb;subst hb;intro e;subst e;exact z ha⟩
  exact List.pairwise_map.1 h2
 ·rcases GD _ _ _ _ _ hp with q |q |⟨z,z1,z2,z3⟩
  ·exact hi.some_ p q
  ·rw[q];simp
  ·rw[z3];simp
 ·rcases GD _ _ _ _ _ hp with q |q |⟨z,z1,z2,z3⟩
  ·obtain⟨x,x1,x2⟩:=hi.of p q id nj;exact⟨x,wc _ x1,x2⟩
  ·subst q;simp only[List.mem_singleton] at nj;exact⟨u,by simp,nj.symm,hg,J⟩
  ·subst z3;rcases List.mem_append.1 nj with y |y
   ·obtain⟨x,x1,x2⟩:=hi.of z z1 id y;exact⟨x,wc _ x1,x2⟩
   ·simp only[List.mem_singleton] at y;exact⟨u,by simp,y.symm,hg,z2.symm⟩
 ·rcases GD _ _ _ _ _ hp with q |q |⟨z,z1,z2,z3⟩
  ·exact hi.up p q
  ·rw[q];simp
  ·rw[z3];simp only;rw[List.pairwise_append];refine⟨hi.up z z1,by simp,λa ha b hb=>?_⟩
   simp at hb;subst hb;obtain⟨x,x1,x2,_⟩:=hi.of z z1 a ha;rw[<-x2];exact hu x x1
theorem GI.more {w h g:Int} {l:List aI} {ps:List cA} (hi:GI w h g l ps) (m:List aI):GI w h g (l++m) ps:=
 ⟨hi.goal,hi.apart,hi.some_,λp hp id nj=>by
   obtain⟨x,x1,x2⟩:=hi.of p hp id nj;exact⟨x,wc _ x1,x2⟩,hi.up⟩
theorem Oj {w h g:Int}: ∀(m l:List aI) (ps:List cA),GI w h g l ps->((l++m).map (·.Id)).Pairwise (· < ·)->GI w h g (l++m) (gG w h g m ps)
 |[],l,ps,hi,_=>by simpa[gG] using hi
 |u::r,l,ps,hi,hp=>by
  have hu: ∀x∈l,x.Id<u.Id:=λx hx=>by
   rw[List.map_append,List.pairwise_append] at hp;exact hp.2.2 _ (List.mem_map_of_mem hx) _ aX
  have e:l++u::r=(l++[u])++r:=by simp
  rw[e] at hp⊢;simp only[gG]
  by_cases hg:u.Goal=g
  ·rw[ag hg];exact Oj r _ _ (hi.step hu hg) hp
  ·rw[ah hg];exact Oj r _ _ (hi.more [u]) hp
theorem T6 {w h g:Int}: ∀(m:List aI) (ps:List cA),lO (gG w h g m ps)=lO ps+(m.filter λu=>decide (u.Goal=g)).length
 |[],ps=>by simp[gG]
 |u::r,ps=>by
  simp only[gG];rw[T6 r]
  by_cases hg:u.Goal=g
  ·rw[ag hg,Ng,List.filter_cons_of_pos (by simpa using hg)];simp;omega
  ·rw[ah hg,List.filter_cons_of_neg (by simpa using hg)]
theorem iL.pair {w h:Int} {l:List aI} (hm:iL w h l):(l.map (·.Id)).Pairwise (· < ·):=by
 rw[List.pairwise_map];exact QC (λi j i0 ij j1=>hm.Dq i0 ij j1)
theorem BK {w h:Int} {l:List aI} (hm:iL w h l) (g:Int):GI w h g l (gG w h g l []):=by
 have:=Oj (w:=w) (h:=h) (g:=g) l [] [] ⟨by simp,by simp,by simp,by simp,by simp⟩ (by simpa using hm.pair)
 simpa using this
theorem XB {w h:Int} {l:List aI}: ∀G:List Int,lO (G.flatMap λg=>gG w h g l [])=(G.map λg=>(l.filter λu=>decide (u.Goal=g)).length).sum
 |[]=>rfl
 |g::G=>by
  simp only[List.flatMap_cons,List.map_cons,List.sum_cons];rw[aii,XB G,T6];simp[lO]
theorem akB (G:List Int) (hn:G.Nodup): ∀l:List aI,(∀u∈l,u.Goal∈G)->(G.map λg=>(l.filter λu=>decide (u.Goal=g)).length).sum=l.length:=by
 have one: ∀(G:List Int) (a:Int),G.Nodup->(G.map λg=>if a=g then 1 else 0).sum=if a∈G then 1 else 0:=by
  intro G a
  induction G with
  |nil=>simp
  |cons g G ih=>
   intro hn;rw[List.nodup_cons] at hn;simp only[List.map_cons,List.sum_cons,ih hn.2,nK]
   by_cases e:a=g
   ·subst e;simp[hn.1]
   ·simp[e]
 intro l
 induction l with
 |nil=>
  intro _;have z: ∀G:List Int,(G.map λg=>(([]:List aI).filter λu=>decide (u.Goal=g)).length).sum=0:=by
   intro G
   induction G with
   |nil=>rfl
   |cons g G ih=>simp only[List.map_cons,List.sum_cons,ih];rfl
  exact z G
 |cons u r ih=>
  intro hl;have h1:=ih (λx hx=>hl x (j6 _ hx));have h2:=one G u.Goal hn;rw[ag (hl u (jj ..))] at h2;have key: ∀G:List Int,(G.map λg=>((u::r).filter λu=>decide (u.Goal=g)).length).sum=(G.map λg=>if u.Goal=g then 1 else 0).sum+(G.map λg=>(r.filter λu=>decide (u.Goal=g)).length).sum:=by
   intro G
   induction G with
   |nil=>rfl
   |cons g G ihG=>
    simp only[List.map_cons,List.sum_cons,ihG]
    by_cases e:u.Goal=g
    ·rw[List.filter_cons_of_pos (by simpa using e),ag e];simp;omega
    ·rw[List.filter_cons_of_neg (by simpa using e),ah e];omega
  rw[key,h1,h2];simp;omega
theorem Md {w h:Int} {l:List aI}:lO (km w h l)=l.length:=by
 unfold km;rw[XB,akB _ (Oi l) l (λu hu=>(TX l _).2 ⟨u,hu,J⟩)]
theorem LP: ∀ps:List cA,(∀p∈ps,p.dj≠[])->ps.length<=lO ps
 |[],_=>by simp
 |p::r,h=>by
  have h1:=LP r (λq hq=>h q (j6 _ hq));have h2:0<p.dj.length:=List.length_pos_iff.2 (h p (jj ..));simp only[kU,lO];omega
structure Zt (w h:Int) (l:List aI) (G:List Int) (ps:List cA):Prop where
 goal: ∀p∈ps,p.Goal∈G
 some_: ∀p∈ps,p.dj≠[]
 up: ∀p∈ps,p.dj.Pairwise (· < ·)
 of: ∀p∈ps,∀id∈p.dj,∃u∈l,u.Id=id/\u.Goal=p.Goal/\aQ w h u.Cell=p.ft
 order:ps.Pairwise λa b=>G.idxOf a.Goal<=G.idxOf b.Goal/\ ¬(a.Goal=b.Goal/\a.ft=b.ft)
theorem Qu {w h:Int} {l:List aI} (hm:iL w h l):Zt w h l (mz l) (km w h l):=by
 have mem: ∀p∈km w h l,∃g∈mz l,p∈gG w h g l []:=λp hp=>by
  unfold km at hp;exact List.mem_flatMap.1 hp
 refine⟨λp hp=>?_,λp hp=>?_,λp hp=>?_,λp hp id nj=>?_,?_⟩
 ·obtain⟨g,h1,h2⟩:=mem p hp;rw[(BK hm g).goal p h2];exact h1
 ·obtain⟨g,h1,h2⟩:=mem p hp;exact(BK hm g).some_ p h2
 ·obtain⟨g,h1,h2⟩:=mem p hp;exact(BK hm g).up p h2
 ·obtain⟨g,h1,h2⟩:=mem p hp;obtain⟨u,u1,u2,u3,u4⟩:=(BK hm g).of p h2 id nj;exact⟨u,u1,u2,by rw[u3,(BK hm g).goal p h2],u4⟩
 ·unfold km;rw[List.pairwise_flatMap];refine⟨λg _=>?_,?_⟩
  ·have hg:=BK (w:=w) (h:=h) hm g;refine(List.Pairwise.and_mem.1 hg.apart).imp ?_;rintro a b ⟨ha,hb,q⟩;rw[hg.goal a ha,hg.goal b hb];exact⟨l7 _,λz=>q z.2⟩
  ·have hn:=Oi l;rw[List.pairwise_iff_getElem];intro i j hi hj tj a ha b hb;rw[(BK hm _).goal a ha,(BK hm _).goal b hb];have e1:(mz l).idxOf (mz l)[i]=i:=hn.idxOf_getElem i hi;have e2:(mz l).idxOf (mz l)[j]=j:=hn.idxOf_getElem j hj;rw[e1,e2];refine⟨by omega,λz=>?_⟩
   have:=(List.pairwise_iff_getElem.1 hn) i j hi hj tj;exact this z.1
section
inductive u7 (k:Int):List (Int×Int)->cw->cw->Prop
 |nil (n:cw):u7 k [] n n
 |snoc {ps:List (Int×Int)} {n n1:cw} {b:Int} {ord:List Int} {c:d_} {goal s:Int} {r:gk×Er×cw} (h:u7 k ps n n1) (hn:ji n1 k b ord) (hc:n1.core=some c) (hg:bV c.ay.m goal) (hs:bE c.ay.m.W c.ay.m.H s) (hf:Cp n1 k b ord c goal s r):u7 k (ps++[(goal,s)]) n r.2.2
def Ey (g:bx) (u:aI) (d:Int):Prop:=
 ∃R l f,qD g R/\R.goal=u.Goal/\(l.length<=1025/\iP.f g R (aQ g.m.W g.m.H u.Cell)=some l)/\(∀y,y∈l↔we g R (aQ g.m.W g.m.H u.Cell) y)/\vR (di g.m (aQ g.m.W g.m.H u.Cell)) l KF f/\d=rd f.cJ (cD g.m.W g.m.H u.Cell)
theorem RQ: ∀(ps:List cA) (g s id:Int) (p:cA),p∈ps-> ∃q∈jO ps g s id,q.ft=p.ft/\ ∀x∈p.dj,x∈q.dj
 |[],_,_,_,_,h=>by simp at h
 |a::r,g,s,id,p,h=>by
  simp only[jO];split
  ·rename_i e;rcases List.mem_cons.1 h with rfl |h
   ·exact⟨_,jj ..,J,λx hx=>wc _ hx⟩
   ·exact⟨p,j6 _ h,J,λx hx=>hx⟩
  ·rcases List.mem_cons.1 h with rfl |h
   ·exact⟨p,jj ..,J,λx hx=>hx⟩
   ·obtain⟨q,q1,q2⟩:=RQ r g s id p h;exact⟨q,j6 _ q1,q2⟩
theorem RO: ∀(ps:List cA) (g s id:Int),∃q∈jO ps g s id,q.ft=s/\id∈q.dj
 |[],g,s,id=>⟨_,jj ..,J,jj ..⟩
 |a::r,g,s,id=>by
  simp only[jO];split
  ·rename_i e;exact⟨_,jj ..,e,by simp⟩
  ·obtain⟨q,q1,q2⟩:=RO r g s id;exact⟨q,j6 _ q1,q2⟩
theorem Ol (w h g:Int): ∀(l:List aI) (ps:List cA) (p:cA),p∈ps-> ∃q∈gG w h g l ps,q.ft=p.ft/\ ∀x∈p.dj,x∈q.dj
 |[],_,p,h=>⟨p,h,J,λ_ z=>z⟩
 |u::r,ps,p,hp=>by
  simp only[gG];split
  ·obtain⟨q,q1,q2,q3⟩:=RQ ps g (aQ w h u.Cell) u.Id p hp;obtain⟨q',a1,a2,a3⟩:=Ol w h g r _ q q1;exact⟨q',a1,a2.trans q2,λx hx=>a3 x (q3 x hx)⟩
  ·exact Ol w h g r ps p hp
theorem T7 (w h g:Int): ∀(l:List aI) (ps:List cA) (u:aI),u∈l->u.Goal=g-> ∃q∈gG w h g l ps,q.ft=aQ w h u.Cell/\u.Id∈q.dj
 |[],_,_,h,_=>by simp at h
 |a::r,ps,u,hu,hg=>by
  simp only[gG];rcases List.mem_cons.1 hu with rfl |hu
  ·rw[ag hg];obtain⟨q,q1,q2,q3⟩:=RO ps g (aQ w h u.Cell) u.Id;obtain⟨q',a1,a2,a3⟩:=Ol w h g r _ q q1;exact⟨q',a1,a2.trans q2,a3 _ q3⟩
  ·exact T7 w h g r _ u hu hg
theorem aiu {w h:Int} {l:List aI} {u:aI} (hu:u∈l): ∃q∈km w h l,u.Id∈q.dj:=by
 obtain⟨q,q1,_,q3⟩:=T7 w h u.Goal l [] u hu J;refine⟨q,?_,q3⟩;unfold km;exact List.mem_flatMap.2 ⟨u.Goal,(TX l _).2 ⟨u,hu,J⟩,q1⟩
theorem Wn {w h:Int} {l:List aI} (hm:iL w h l) {u v:aI} (hu:u∈l) (hv:v∈l) (e:u.Id=v.Id):u=v:=by
 obtain⟨i,i0,i1,rfl⟩:=ka hu;obtain⟨j,j0,j1,rfl⟩:=ka hv;rcases Int.lt_trichotomy i j with q |q |q
 ·have:=hm.Dq i0 q j1;omega
 ·rw[q]
 ·have:=hm.Dq j0 q i1;omega
variable {S : bJ} {k : Int} {L : List aI}
theorem acO (bA:cw) (D:List (Int×Int)) (hL:L.length<=1000000): ∀(n m:Nat) (x:List Int) (i:Int),(L.length-i).toNat<=n->n<m->0<=i->i<=L.length->x=(L.take i.toNat).map (λu=>aP D u.Id)->
 fb.l3 m S L bA D x i=some (L.map (λu=>aP D u.Id),Er.nil,⟨S.most,bA,S.eT⟩):=by
 have fin: ∀(m:Nat) (x:List Int) (i:Int),¬i<L.length->x=(L.take i.toNat).map (λu=>aP D u.Id)->fb.l3 (m+1) S L bA D x i=some (L.map (λu=>aP D u.Id),Er.nil,⟨S.most,bA,S.eT⟩):=λm x i hi hx=>by
  rw[fb.l3,ah hi,hx,Cx U]
 intro n
 induction n with
 |zero=>
  intro m x i hn hm hi dK hx;obtain⟨m,rfl⟩:=bl hm;exact fin m x i U hx
 |succ n ih=>
  intro m x i hn hm hi dK hx;obtain⟨m,rfl⟩:=bl hm
  by_cases aS:i<L.length
  ·rw[fb.l3,ag aS,ag ⟨hi,aS⟩,ag (by rw[hx];simp;omega),wi U U]
   refine ih m _ (i+1) U U U U ?_;rw[hx,Jn hi aS];simp
  ·exact fin m x i aS hx
theorem acN (x4:List (Int×Int)) (ps:List cA) (i:Int) (dh:cw) (F:List Int) (pC:(rd ps i).dj.length<=1000000) (bZ: ∀id∈(rd ps i).dj,0<=aP x4 id/\aP x4 id<F.length) (D0:List (Int×Int)): ∀(n m:Nat) (D:List (Int×Int)) (j:Int),((rd ps i).dj.length-j).toNat<=n->n<m->0<=j->j<=(rd ps i).dj.length->
 (∀id,(∃q:Int,0<=q/\q<j/\rd (rd ps i).dj q=id)->aP D id=rd F (aP x4 id))->(∀id,id∉(rd ps i).dj->aP D id=aP D0 id)->
 Ok (fb.l2 m x4 i ps dh F D j) (λr=> ∃D',r=Sum.inr (dh,D')/\(∀id∈(rd ps i).dj,aP D' id=rd F (aP x4 id))/\ ∀id,id∉(rd ps i).dj->aP D' id=aP D0 id):=by
 have fin: ∀(m:Nat) (D:List (Int×Int)) (j:Int),¬j<(rd ps i).dj.length->(∀id,(∃q:Int,0<=q/\q<j/\rd (rd ps i).dj q=id)->aP D id=rd F (aP x4 id))->(∀id,id∉(rd ps i).dj->aP D id=aP D0 id)->
  Ok (fb.l2 (m+1) x4 i ps dh F D j) (λr=> ∃D',r=Sum.inr (dh,D')/\(∀id∈(rd ps i).dj,aP D' id=rd F (aP x4 id))/\ ∀id,id∉(rd ps i).dj->aP D' id=aP D0 id):=λm D j hj ha hb=>by
  rw[fb.l2,ah hj];refine Ok.pure ⟨D,J,λid nj=>?_,hb⟩
  obtain⟨q,q0,q1,e⟩:=ka nj;exact ha id ⟨q,q0,by omega,e⟩
 intro n
 induction n with
 |zero=>
  intro m D j hn hm hj i_ ha hb;obtain⟨m,rfl⟩:=bl hm;exact fin m D j U ha hb
 |succ n ih=>
  intro m D j hn hm hj i_ ha hb;obtain⟨m,rfl⟩:=bl hm
  by_cases aS:j<(rd ps i).dj.length
  ·have jE:=dR hj aS;rw[fb.l2,wi U U];refine Ok.pos aS (Ok.cz ⟨hj,aS⟩ (Ok.cz (bZ _ jE) (ih m _ (j+1) U U U U (λid ⟨q,q0,q1,e⟩=>?_) (λid nj=>?_))))
   ·rw[rX];split
    ·rename_i z;rw[z]
    ·rename_i z;refine ha id ⟨q,q0,?_,e⟩;have:q≠j:=λy=>z (by rw[<-e,y])
     omega
   ·rw[rX,ah (λz=>nj (by rw[<-z];exact jE))];exact hb id nj
  ·exact fin m D j aS ha hb
abbrev Fv (p:cA):Int×Int:=(p.Goal,p.ft)
theorem acM {g:bx} (hm:iL g.m.W g.m.H L) (hL:L.length<=1000) (hGs: ∃more,cQ g more) (HM: ∀u∈L,bV g.m u.Goal) (x4:List (Int×Int)) (Lw: ∀u∈L,aP x4 u.Id=cD g.m.W g.m.H u.Cell) (n0:cw): ∀(n m:Nat) (nv:cw) (D:List (Int×Int)) (i:Int) (b:Int) (ord:List Int),((km g.m.W g.m.H L).length-i).toNat<=n->n<m->0<=i->i<=(km g.m.W g.m.H L).length->
 ji nv k b ord->0<=b->b+5000*((km g.m.W g.m.H L).length-i)<=90000000000->(∃c,nv.core=some c/\c.ay=g)->u7 k (((km g.m.W g.m.H L).map Fv).take i.toNat) n0 nv->
 (∀u∈L,(∃j:Int,0<=j/\j<i/\u.Id∈(rd (km g.m.W g.m.H L) j).dj)->Ey g u (aP D u.Id))->
 Ok (fb.l1 m S L x4 (km g.m.W g.m.H L) nv D i) (λr=>r.2.1=Er.nil/\ ∃qh r_,r.2.2=⟨S.most,qh,S.eT⟩/\ji qh k (b+5000*((km g.m.W g.m.H L).length-i)) r_/\(∃c,qh.core=some c/\c.ay=g)/\u7 k ((km g.m.W g.m.H L).map Fv) n0 qh/\r.1.length=L.length/\ ∀j:Int,0<=j->j<L.length->Ey g (rd L j) (rd r.1 j)):=by
 have K_:=Qu hm;have nT:(km g.m.W g.m.H L).length<=L.length:=by
  have:=LP _ K_.some_;rw[Md] at this;exact this
 generalize pC:km g.m.W g.m.H L=ps at*;have fin: ∀(m:Nat) (nv:cw) (D:List (Int×Int)) (i b:Int) (ord:List Int),¬i<ps.length->i<=ps.length->ji nv k b ord->(∃c,nv.core=some c/\c.ay=g)->u7 k ((ps.map Fv).take i.toNat) n0 nv->
  (∀u∈L,(∃j:Int,0<=j/\j<i/\u.Id∈(rd ps j).dj)->Ey g u (aP D u.Id))->
  Ok (fb.l1 (m+1) S L x4 ps nv D i) (λr=>r.2.1=Er.nil/\ ∃qh r_,r.2.2=⟨S.most,qh,S.eT⟩/\ji qh k (b+5000*(ps.length-i)) r_/\(∃c,qh.core=some c/\c.ay=g)/\u7 k (ps.map Fv) n0 qh/\r.1.length=L.length/\ ∀j:Int,0<=j->j<L.length->Ey g (rd L j) (rd r.1 j)):=by
  intro m nv D i b ord hi dK hn hc hF ha;rw[fb.l1,ah hi,acO nv D U L.length fuel [] 0 U (by rw[cI];omega) U U aX]
  refine Ok.pure ⟨J,nv,ord,J,by rw[show b+5000*((ps.length:Int)-i)=b by omega];exact hn,hc,?_,by simp,λj j0 j1=>?_⟩
  ·rw[Cx bf] at hF;exact hF
  ·simp only;rw[Ax j0 j1];have hu:=dR j0 j1;obtain⟨q,q1,q2⟩:=aiu (w:=g.m.W) (h:=g.m.H) hu;rw[pC] at q1;obtain⟨x,x0,x1,e⟩:=ka q1;exact ha _ hu ⟨x,x0,by omega,by rw[e];exact q2⟩
 intro n
 induction n with
 |zero=>
  intro m nv D i b ord hn yq hi dK hN hb HC hc hF ha;obtain⟨m,rfl⟩:=bl yq;exact fin m nv D i b ord U dK hN hc hF ha
 |succ n ih=>
  intro m nv D i b ord hn yq hi dK hN hb HC hc hF ha;obtain⟨m,rfl⟩:=bl yq
  by_cases aS:i<ps.length
  ·have hp:=dR hi aS;obtain⟨id0,af8⟩:=List.exists_mem_of_ne_nil _ (K_.some_ _ hp);obtain⟨u0,a1,a2,a3,a4⟩:=K_.of _ hp id0 af8;obtain⟨c,c1,c2⟩:=hc;subst c2;have hg:bV c.ay.m (rd ps i).Goal:=by rw[<-a3];exact HM u0 a1
   have e_: ∀u∈L,bQ c.ay.m.W c.ay.m.H u.Cell:=λu hu=>by
    obtain⟨j,j0,j1,rfl⟩:=ka hu;exact hm.cell j0 j1
   have hs:bE c.ay.m.W c.ay.m.H (rd ps i).ft:=by rw[<-a4];exact o0 (e_ u0 a1)
   rw[fb.l1,wi (x:=i+1) U U];refine Ok.pos aS ?_;rw[ag (show 0<=i/\i<(ps.length:Int) from⟨hi,aS⟩)]
   obtain⟨r,er,hr⟩:=Xa hN ⟨hb,by omega⟩ c1 hg hs
   obtain⟨f,e,n'⟩:=r;have he:=hr.err;simp only at he;subst he;obtain⟨R,l,c',r_,f1,f2,f3,f4,f5,f6,f7,f8,f9,f10,f11,f12,f13,f14,f15,f16,f17,f18⟩:=hr.C2;simp only at f6 f7 f16;have ef:vA.f nv (rd ps i).Goal (rd ps i).ft=some (f,0,n'):=by
    unfold vA.f;rw[er,aD];simp only[W8,aD]
   have Bu:=K_.of _ hp;obtain⟨more,hG⟩:=hGs;have Df: ∀u∈L,aQ c.ay.m.W c.ay.m.H u.Cell=(rd ps i).ft->0<=cD c.ay.m.W c.ay.m.H u.Cell/\cD c.ay.m.W c.ay.m.H u.Cell<f.cJ.length:=λu hu e=>by
    have eU:=e_ u hu;have:=tG hG (c:=u.Cell) eU.2;rw[e] at this;rw[f6.dl];exact⟨this.1,this.2.1⟩
   have Fh:(rd ps i).dj.length<=1000000:=by
    have h1:=XC ps i hi aS;rw[<-pC,Md,pC] at h1;omega
   have rP:=acN x4 ps i n' f.cJ Fh (λid nj=>by
    obtain⟨u,u1,u2,u3,u4⟩:=Bu id nj;rw[<-u2,Lw u u1];exact Df u u1 u4) D (rd ps i).dj.length fuel D 0 U (by rw[cI];omega) U U (λid ⟨q,q0,q1,_⟩=>by omega) (λid _=>rfl)
   refine Ok.bind (P:=λz=> ∃D',z=Sum.inr (n',D')/\(∀id∈(rd ps i).dj,aP D' id=rd f.cJ (aP x4 id))/\ ∀id,id∉(rd ps i).dj->aP D' id=aP D id) ?_ λz hz=>?_
   ·refine Ok.bind (P:=λp=>p=(n',f.fi,f.cJ,(0:Int))) (Ok.eq ef (Ok.pure J)) λp hp=>?_
    subst hp;exact Ok.neg aX rP
   obtain⟨D',HW,Fm,Lq⟩:=hz;subst HW;refine(ih m n' D' (i+1) (b+5000) r_ U U U U f16 U U ⟨c',f7,f8⟩ ?_ (λu hu ⟨j,j0,j1,hj⟩=>?_)).mono λr oK=>?_
   ·rw[Jn hi (by simpa using aS),Ax hi aS]
    exact u7.snoc (r:=(f,Er.nil,n')) hF hN c1 hg hs hr
   ·by_cases z:u.Id∈(rd ps i).dj
    ·obtain⟨v,v1,v2,v3,v4⟩:=Bu _ z;have:=Wn hm v1 hu v2;subst this;rw[Fm _ z,Lw _ hu];exact⟨R,l,f,f1,by rw[f2,v3],⟨f3,by rw[v4];exact f18.2⟩,by rw[v4];exact f4,by rw[v4];exact f6,J⟩
    ·rw[Lq _ z];refine ha u hu ⟨j,j0,?_,hj⟩;have:j≠i:=λy=>z (by rw[<-y];exact hj)
     omega
   ·obtain⟨h1,qh,o',h2,h3,h4⟩:=oK;exact⟨h1,qh,o',h2,by rw[show b+5000*((ps.length:Int)-i)=b+5000+5000*(ps.length-(i+1)) by omega];exact h3,h4⟩
  ·exact fin m nv D i b ord aS dK hN hc hF ha
theorem acL {g:bx} (hm:iL g.m.W g.m.H L) (hL:L.length<=1000) (Q:List Int×Er×bJ->Prop) (Fe: ∀x4:List (Int×Int),(∀u∈L,aP x4 u.Id=cD g.m.W g.m.H u.Cell)->Ok (fb.l1 fuel S L x4 (km g.m.W g.m.H L) S.nav ([]:List (Int×Int)) 0) Q): ∀(n m:Nat) (x4:List (Int×Int)) (i:Int),(L.length-i).toNat<=n->n<m->0<=i->i<=L.length->(∀u∈L,(∃j:Int,0<=j/\j<i/\rd L j=u)->aP x4 u.Id=cD g.m.W g.m.H u.Cell)->
 Ok (fb.l0 m S L (g.m.W,g.m.H) x4 i) Q:=by
 have fin: ∀(m:Nat) (x4:List (Int×Int)) (i:Int),¬i<L.length->(∀u∈L,(∃j:Int,0<=j/\j<i/\rd L j=u)->aP x4 u.Id=cD g.m.W g.m.H u.Cell)->Ok (fb.l0 (m+1) S L (g.m.W,g.m.H) x4 i) Q:=λm x4 i hi ha=>by
  rw[fb.l0,ah hi];refine Ok.eq (ait U hm) (Fe x4 λu hu=>?_);obtain⟨j,j0,j1,e⟩:=ka hu;exact ha u hu ⟨j,j0,by omega,e⟩
 intro n
 induction n with
 |zero=>
  intro m x4 i hn yq hi dK ha;obtain⟨m,rfl⟩:=bl yq;exact fin m x4 i U ha
 |succ n ih=>
  intro m x4 i hn yq hi dK ha;obtain⟨m,rfl⟩:=bl yq
  by_cases aS:i<L.length
  ·rw[fb.l0,wi U U];refine Ok.pos aS (Ok.cz ⟨hi,aS⟩ (Ok.eq (Is ..) (ih m _ (i+1) U U U U λu hu ⟨j,j0,j1,e⟩=>?_)));rw[rX];split
   ·rename_i z;rw[Wn hm (dR hi aS) hu z]
   ·rename_i z;refine ha u hu ⟨j,j0,?_,e⟩;have:j≠i:=λy=>z (by rw[<-e,y])
    omega
  ·exact fin m x4 i aS ha
theorem acK {c:d_} {b:Int} {ord:List Int} (hn:ji S.nav k b ord) (hb:0<=b/\b<=80000000000) (hc:S.nav.core=some c) (hm:iL c.ay.m.W c.ay.m.H L) (hL:L.length<=1000) (HM: ∀u∈L,bV c.ay.m u.Goal):
 Ok (fb.f S L) (λr=>r.2.1=Er.nil/\ ∃qh r_,r.2.2=⟨S.most,qh,S.eT⟩/\ji qh k (b+5000*(km c.ay.m.W c.ay.m.H L).length) r_/\(∃c',qh.core=some c'/\c'.ay=c.ay)/\u7 k ((km c.ay.m.W c.ay.m.H L).map Fv) S.nav qh/\r.1.length=L.length/\ ∀j:Int,0<=j->j<L.length->Ey c.ay (rd L j) (rd r.1 j)):=by
 have nT:(km c.ay.m.W c.ay.m.H L).length<=L.length:=by
  have:=LP _ (Qu hm).some_;rw[Md] at this;exact this
 unfold fb.f;refine Ok.eq (Xj hc) (acL hm hL _ (λx4 Lw=>?_) L.length fuel [] 0 U (by rw[cI];omega) U U (λu _ ⟨j,j0,j1,_⟩=>by omega))
 refine(acM hm hL ⟨0,(hn.core c hc).1.gs⟩ HM x4 Lw S.nav 1000 fuel S.nav [] 0 b ord U (by rw[cI];omega) U U hn hb.1 U ⟨c,hc,J⟩ (u7.nil _) (λu _ ⟨j,j0,j1,_⟩=>by omega)).mono λr hr=>?_
 rw[Int.sub_zero] at hr;exact hr
end
section
theorem abK (l:List a_) (c side:Int) (hb:l.length<=1000000): ∀(n k:Nat) (x:Int) (b:Bool) (i:Int),(l.length-i).toNat<=n->n<k->0<=i->
 Ok (ly.l0 k l c side x b i) (λr=>((r=x/\(b=true∨ ∀j:Int,i<=j->j<l.length-> ¬((rd l j).Cell=c/\(rd l j).cY=side)))∨ ∃y∈l,y.Cell=c/\y.cY=side/\y.Key=r)/\(∀j:Int,i<=j->j<l.length->(rd l j).Cell=c->(rd l j).cY=side->r<=(rd l j).Key)/\(b=true->r<=x)):=by
 have fin: ∀(k:Nat) (x:Int) (b:Bool) (i:Int),¬i<l.length->Ok (ly.l0 (k+1) l c side x b i) (λr=>((r=x/\(b=true∨ ∀j:Int,i<=j->j<l.length-> ¬((rd l j).Cell=c/\(rd l j).cY=side)))∨ ∃y∈l,y.Cell=c/\y.cY=side/\y.Key=r)/\(∀j:Int,i<=j->j<l.length->(rd l j).Cell=c->(rd l j).cY=side->r<=(rd l j).Key)/\(b=true->r<=x)):=λk x b i hi=>by
  rw[ly.l0,ah hi];exact Ok.pure ⟨.inl ⟨J,.inr λj j0 j1=>by omega⟩,λj j0 j1=>by omega,λ_=>dU _⟩
 intro n
 induction n with
 |zero=>
  intro k x b i hn hk hi;obtain⟨k,rfl⟩:=bl hk;exact fin k x b i U
 |succ n ih=>
  intro k x b i hn hk hi;obtain⟨k,rfl⟩:=bl hk
  by_cases aS:i<l.length
  ·rw[ly.l0,wi U U];have hq:(if((rd l i).Cell==c)=true then(if((rd l i).cY==side)=true then(if(!b)=true then(some true) else(some (decide ((rd l i).Key<x)))) else(some false)) else(some false))=some (decide (((rd l i).Cell=c/\(rd l i).cY=side)/\(b=false∨(rd l i).Key<x))):=by
    by_cases a1:(rd l i).Cell=c
    ·by_cases a2:(rd l i).cY=side
     ·cases b<;>simp[a1,a2]
     ·simp[a1,a2]
    ·simp[a1]
   refine Ok.pos aS (Ok.cz ⟨hi,aS⟩ (Ok.eq hq (Ok.ite (λq=>?_) λq=>?_)))
   ·obtain⟨⟨q1,q2⟩,q3⟩:=of_decide_eq_true q;refine(ih k (rd l i).Key true (i+1) U U U).mono λr hr=>⟨?_,λj j0 j1 e1 e2=>?_,λjR=>?_⟩
    ·rcases hr.1 with⟨z,_⟩ |z
     ·exact .inr ⟨_,dR hi aS,q1,q2,z.symm⟩
     ·exact .inr z
    ·by_cases z:j=i
     ·rw[z];exact hr.2.2 J
     ·exact hr.2.1 j U j1 e1 e2
    ·have:=hr.2.2 J;rcases q3 with q3 |q3
     ·rw[q3] at jR;simp at jR
     ·omega
   ·have q: ¬(((rd l i).Cell=c/\(rd l i).cY=side)/\(b=false∨(rd l i).Key<x)):=by simpa using q
    refine(ih k x b (i+1) U U U).mono λr hr=>⟨?_,λj j0 j1 e1 e2=>?_,hr.2.2⟩
    ·rcases hr.1 with⟨z,w⟩ |z
     ·refine .inl ⟨z,?_⟩
      by_cases jR:b=true
      ·exact .inl jR
      ·refine .inr λj j0 j1 e=>?_
       by_cases y:j=i
       ·subst y;exact q ⟨e,.inl (by simpa using jR)⟩
       ·exact(w.resolve_left jR) j U j1 e
     ·exact .inr z
    ·by_cases z:j=i
     ·subst z
      by_cases jR:b=true
      ·have:=hr.2.2 jR;have: ¬(rd l j).Key<x:=λy=>q ⟨⟨e1,e2⟩,.inr y⟩
       omega
      ·exact absurd ⟨⟨e1,e2⟩,.inl (by simpa using jR)⟩ q
     ·exact hr.2.1 j U j1 e1 e2
  ·exact fin k x b i aS
theorem abL {l:List a_} (hb:l.length<=1000000) (c side:Int):((wu l c side=cx/\ ∀y∈l,¬(y.Cell=c/\y.cY=side))∨ ∃y∈l,y.Cell=c/\y.cY=side/\y.Key=wu l c side)/\ ∀y∈l,y.Cell=c->y.cY=side->wu l c side<=y.Key:=by
 obtain⟨r,e,h1,h2,_⟩:=abK l c side hb l.length fuel 1099511627776 false 0 U (by rw[cI];omega) U
 have hv:wu l c side=r:=by unfold wu ly.f;rw[e];rfl
 rw[hv];refine⟨?_,λy hy e1 e2=>?_⟩
 ·rcases h1 with⟨a,b⟩ |a
  ·refine .inl ⟨a,λy hy z=>?_⟩
   obtain⟨j,j0,j1,rfl⟩:=ka hy;exact(b.resolve_left aX) j j0 j1 z
  ·exact .inr a
 ·obtain⟨j,j0,j1,rfl⟩:=ka hy;exact h2 j j0 j1 e1 e2
theorem W9 {w h s l d:Int} (hs:bE w h s) (l0:0<=l) (l1:l<(az w h s).1*(az w h s).2) (d0:0<=d) (d3:d<=3) {t:aJ} (hW:t.W=(az w h s).1) (hH:t.H=(az w h s).2) (hn:0<=ei t l d):
 ei t l d<(az w h s).1*(az w h s).2/\bB w h (cn w h s l) d=cn w h s (ei t l d):=by
 obtain⟨z1,z2,z3,z4⟩:=qw hs;obtain⟨hc,e1,e2⟩:=Hc hs l0 l1;obtain⟨p1,p2,p3,p4,p5,p6⟩:=wE hs l0 l1;have HG:=u_ l (az w h s).1;have hm:=hc.1;have key: ∀x y:Int,0<=x->x<(az w h s).1->0<=y->y<(az w h s).2->x=l%(az w h s).1+dX d->y=l/(az w h s).1+dY d->y*(az w h s).1+x<(az w h s).1*(az w h s).2/\bB w h (cn w h s l) d=cn w h s (y*(az w h s).1+x):=by
  intro x y x0 x1 y0 y1 ex ey;have bZ:=sS (w:=(az w h s).1) (h:=(az w h s).2) x0 x1 y0 y1;have vv:=qg (a:=(az w h s).1) (x:=x) (y:=y) x0 x1;refine⟨bZ.2,?_⟩;obtain⟨q1,q2,q3,q4,q5,q6⟩:=wE hs bZ.1 bZ.2;rw[vv.1] at q5;rw[vv.2] at q6;have iq:bB w h (cn w h s l) d=oa w h (cn w h s l%w+dX d) (cn w h s l/w+dY d):=by unfold bB;rw[ag ⟨hc,d0,by omega⟩]
  rw[iq,e1,e2];have hsp:=uQ hs;unfold oa cn;rw[ag (c:=bE w h s/\_) ⟨hs,bZ⟩,vv.1,vv.2,ag ⟨hm,by omega,by omega,by omega,by omega⟩,ex,ey,Int.add_assoc,Int.add_assoc]
 have hd:d=0∨d=1∨d=2∨d=3:=U;rw[mW] at HG;unfold ei at hn⊢;simp only[hW,hH] at hn⊢;rcases hd with rfl |rfl |rfl |rfl
 ·simp only[if_true] at hn⊢;split at hn
  ·rename_i z;rw[ag z];have:=key (l%(az w h s).1) (l/(az w h s).1-1) p1 p2 U U (by simp[dX]) (by simp[dY];omega)
   rw[Int.sub_mul,Int.one_mul] at this;rw[show l-(az w h s).1=l/(az w h s).1*(az w h s).1-(az w h s).1+l%(az w h s).1 by omega]
   exact this
  ·omega
 ·simp only[show ¬(1:Int)=0 by omega,if_true,if_false] at hn⊢
  split at hn
  ·rename_i z;rw[ag z];have:=key (l%(az w h s).1+1) (l/(az w h s).1) U U p3 p4 (by simp[dX]) (by simp[dY])
   rw[show l+1=l/(az w h s).1*(az w h s).1+(l%(az w h s).1+1) by omega]
   exact this
  ·omega
 ·simp only[show ¬(2:Int)=0 by omega,show ¬(2:Int)=1 by omega,if_true,if_false] at hn⊢
  split at hn
  ·rename_i z;rw[ag z];have:=key (l%(az w h s).1) (l/(az w h s).1+1) p1 p2 U U (by simp[dX]) (by simp[dY])
   rw[Int.add_mul,Int.one_mul] at this;rw[show l+(az w h s).1=l/(az w h s).1*(az w h s).1+(az w h s).1+l%(az w h s).1 by omega]
   exact this
  ·omega
 ·simp only[show ¬(3:Int)=0 by omega,show ¬(3:Int)=1 by omega,show ¬(3:Int)=2 by omega,if_false] at hn⊢
  split at hn
  ·rename_i z;rw[ag z];have:=key (l%(az w h s).1-1) (l/(az w h s).1) U U p3 p4 (by simp[dX];omega) (by simp[dY])
   rw[show l-1=l/(az w h s).1*(az w h s).1+(l%(az w h s).1-1) by omega]
   exact this
  ·omega
variable {g : bx} {more : Int} {R : hJ}
theorem acJ (h:cQ g more) {l:List a_} (hl:l.length<=1025) {c d:Int} (hc:bV g.m c) (hm: ∀y,y∈l↔we g R (aQ g.m.W g.m.H c) y) {K:Int} {f:gk} (hf:vR (di g.m (aQ g.m.W g.m.H c)) l K f) (hd:d=rd f.cJ (cD g.m.W g.m.H c)) (d0:0<=d) (d3:d<=3):r8 g (bB g.m.W g.m.H c d):=by
 have e_:=ir h.ok hc;have hs:=o0 e_;have mH:=tG h hc;have bZ:=Ak e_;have nS:=pX e_;have hb:l.length<=1000000:=U;have hI:cx=1099511627776:=rfl;rw[hf.dir _ mH.1 mH.2.1] at hd;have Lt:d=Jd (di g.m (aQ g.m.W g.m.H c)) l f.fi (cD g.m.W g.m.H c)/\rd f.fi (cD g.m.W g.m.H c)≠cx:=by
  unfold ya at hd;split at hd
  ·omega
  ·rename_i z;split at hd
   ·omega
   ·exact⟨hd,z⟩
 obtain⟨gO,bD⟩:=Lt;have iZ:Bc (di g.m (aQ g.m.W g.m.H c)) l f.fi (cD g.m.W g.m.H c) d=true:=by
  unfold Jd at gO
  repeat' split at gO
  all_goals first
   |(subst gO;assumption)
   |omega
 unfold Bc at iZ
 by_cases z:ei (di g.m (aQ g.m.W g.m.H c)) (cD g.m.W g.m.H c) d<0
 ·rw[ag z] at iZ;have iZ:wu l (cD g.m.W g.m.H c) d=rd f.fi (cD g.m.W g.m.H c):=by simpa using iZ
  rcases(abL hb (cD g.m.W g.m.H c) d).1 with⟨q,_⟩ |⟨y,hy,y1,y2,y3⟩
  ·rw[q] at iZ;exact absurd iZ.symm bD
  ·rcases(hm y).1 hy with⟨c',jr,e,he,ha,rfl⟩ |⟨_,_,rfl⟩
   ·obtain⟨n1,n2,n3,n4⟩:=qU jr;obtain⟨d',d0',d3',d4',rfl⟩:=GZ he;simp only at y1 y2;have afT:c'=c:=by
     have h1:=pX (ir h.ok n2);rw[n4,y1,nS] at h1;exact h1.symm
    subst afT;have aV:=(rj.1 d4');have oJ:=IV (w:=g.m.W) (h:=g.m.H) (c:=c') (side:=d') aV.1.1;have Dk:Ea g.m.W g.m.H c' (fp g.m.W g.m.H c' d')=d':=by
     rw[oJ.2.2.2.2.1];exact YE e_ d0' U (by rw[<-oJ.2.2.2.2.1];exact oJ.2.2.2.1)
    rw[Dk] at y2;subst y2;rw[<-oJ.2.2.2.2.1];refine⟨aV.1,?_⟩;unfold fh;rw[ag aV.1];exact aV.2
   ·simp only at y2;omega
 ·rw[ah z] at iZ;have iZ:=of_decide_eq_true iZ;obtain⟨q1,q2⟩:=W9 hs bZ.1 bZ.2 d0 d3 (t:=di g.m (aQ g.m.W g.m.H c)) J J U;rw[nS] at q2;rw[q2];have VI:=zR hs U q1;have eU:fh g (cn g.m.W g.m.H (aQ g.m.W g.m.H c) (ei (di g.m (aQ g.m.W g.m.H c)) (cD g.m.W g.m.H c) d))=rd (di g.m (aQ g.m.W g.m.H c)).C (ei (di g.m (aQ g.m.W g.m.H c)) (cD g.m.W g.m.H c) d):=by
   have e:fh g (cn g.m.W g.m.H (aQ g.m.W g.m.H c) (ei (di g.m (aQ g.m.W g.m.H c)) (cD g.m.W g.m.H c) d))=rd g.m.C (cn g.m.W g.m.H (aQ g.m.W g.m.H c) (ei (di g.m (aQ g.m.W g.m.H c)) (cD g.m.W g.m.H c) d)):=by unfold fh;exact ag VI
   rw[e];exact(Jo U U).symm
  exact⟨VI,by rw[eU];exact iZ.1⟩
end
structure US (u:fC) (most:Int) (L:List aI):Prop where
 LZ:u.most=most
 mb:1<=most/\most<=65536
 next:0<=u.next/\u.next<=1000000
 keys:(u.live.map (·.1)).Nodup
 len:u.live.length=L.length
 has: ∀k,bt u.live k=true-> ∃x∈L,x.Id=k
 val: ∀x∈L,cN u.live x.Id=some x
 ord:u.order.filter (λk=>bt u.live k)=L.map (·.Id)
 aZ: ∀k∈u.order,0<=k/\k<u.next
 IQ:(u.order.length:Int)<=u.next
 up:(L.map (·.Id)).Pairwise (· < ·)
def pe (L:List aI) (k:Int):Option aI:=L.find? (λx=>x.Id==k)
def AP (L:List aI) (k:Int):aI×Bool:=match pe L k with
 |some x=>(x,true)
 |none=>(⟨0,0,0⟩,false)
def Cd (L:List aI) (k:Int):Bool:=(pe L k).isSome
def mO (L:List aI) (k:Int):List aI:=L.filter (λx=>x.Id !=k)
def hU (L:List aI) (k:Int) (f:aI->aI):List aI:=L.map (λx=>if x.Id=k then f x else x)
theorem Cc {L:List aI} {k:Int} {x:aI} (h:pe L k=some x):x∈L/\x.Id=k:=
 ⟨List.mem_of_find?_eq_some h,by simpa using List.find?_some h⟩
theorem Jp {L:List aI} {k:Int} (h:pe L k=none): ∀x∈L,x.Id≠k:=by
 intro x hx e;have:=List.find?_eq_none.1 h x hx;simp[e] at this
theorem Dp {L:List aI} (h:(L.map (·.Id)).Pairwise (· < ·)) {x y:aI} (hx:x∈L) (hy:y∈L) (e:x.Id=y.Id):x=y:=by
 obtain⟨i,hi,rfl⟩:=List.mem_iff_getElem.1 hx;obtain⟨j,hj,rfl⟩:=List.mem_iff_getElem.1 hy;have key:=List.pairwise_iff_getElem.1 h;have:i=j:=by
  rcases Nat.lt_trichotomy i j with q |q |q
  ·have:=key i j (by simpa using hi) (by simpa using hj) q
   simp at this;omega
  ·exact q
  ·have:=key j i (by simpa using hj) (by simpa using hi) q
   simp at this;omega
 subst this;rfl
theorem Rc {L:List aI} (h:(L.map (·.Id)).Pairwise (· < ·)) {x:aI} (hx:x∈L):pe L x.Id=some x:=by
 cases hf:pe L x.Id with
 |none=>exact absurd J (Jp hf x hx)
 |some y=>
  obtain⟨h1,h2⟩:=Cc hf;rw[Dp h h1 hx h2]
variable {u : fC} {most : Int} {L : List aI}
theorem US.get (h:US u most L) (k:Int):cN u.live k=pe L k:=by
 cases hf:pe L k with
 |some x=>
  obtain⟨h1,h2⟩:=Cc hf;rw[<-h2];exact h.val x h1
 |none=>
  cases hg:cN u.live k with
  |none=>rfl
  |some v=>
   obtain⟨x,hx,e⟩:=h.has k (IF hg);exact absurd e (Jp hf x hx)
theorem US.fg (h:US u most L):(L.length:Int)<=u.next:=by
 have h1:(L.map (·.Id)).length<=u.order.length:=by rw[<-h.ord];exact EE ..
 have:=h.IQ;simp at h1;omega
theorem ahS (most:Int):zd.f most=some (if 1<=most/\most<=65536 then some (fC.mk most 0 [] []) else none):=by
 unfold zd.f
 by_cases h:1<=most/\most<=65536
 ·rw[ah bf,ag h]
 ·rw[ag bf,ah h]
theorem ahU (h:1<=most/\most<=65536):US (fC.mk most 0 [] []) most []:=
 ⟨J,h,by simp,by simp,J,by simp[bt,cN],by simp,by simp,by simp,by simp,by simp⟩
theorem aan (hb:u.order.length<=1000000): ∀(n k:Nat) (i:Int) (xs:List Int),i+n=u.order.length->0<=i->n<k->(xs.length:Int)<=i->
 mh.l0 k u xs i=some (xs++(u.order.drop i.toNat).filter (λq=>bt u.live q)):=by
 intro n
 induction n with
 |zero=>
  intro k i xs hi h0 hk hx;obtain⟨k,rfl⟩:=bl hk;rw[mh.l0,ah U,A_ U];simp
 |succ n ih=>
  intro k i xs hi h0 hk hx;obtain⟨k,rfl⟩:=bl hk;rw[mh.l0,ag U,ag U,wi U U,CV h0 U]
  by_cases hm:bt u.live (rd u.order i)=true
  ·rw[ag hm,ag U,ih k (i+1) _ U U U bf];simp[hm]
  ·rw[ah hm,ih k (i+1) _ U U U U];simp[hm]
theorem aam (hb:u.order.length<=1000000):mh.f u=some (u.order.filter (λq=>bt u.live q)):=by
 unfold mh.f;rw[aan hb u.order.length fuel 0 [] U U (by rw[cI];omega) aX];simp
theorem US.ob (h:US u most L):u.order.length<=1000000:=by have:=h.IQ;have:=h.next;omega
theorem RX (h:US u most L):mh.f u=some (L.map (·.Id)):=by rw[aam h.ob,h.ord]
theorem aap {v:List Int} (hb:v.length<=1000000): ∀(n k:Nat) (i:Int) (xs:List aI),i+n=v.length->0<=i->n<k->(xs.length:Int)<=i->
 pJ.l0 k u v xs i=some (xs++(v.drop i.toNat).map (λq=>aP u.live q)):=by
 intro n
 induction n with
 |zero=>
  intro k i xs hi h0 hk hx;obtain⟨k,rfl⟩:=bl hk;rw[pJ.l0,ah U,A_ U];simp
 |succ n ih=>
  intro k i xs hi h0 hk hx;obtain⟨k,rfl⟩:=bl hk;rw[pJ.l0,ag U,ag U,ag U,wi U U,CV h0 U,ih k (i+1) _ U U U bf];simp
theorem aao (h:US u most L):pJ.f u=some L:=by
 unfold pJ.f;have hc:=h.fg;have hn:=h.next
 rw[RX h,aD,aap bf L.length fuel 0 [] aX U (by rw[cI];omega) aX]
 simp only[List.nil_append,Int.toNat_zero,List.drop_zero,List.map_map]
 congr 1
 conv=>rhs;rw[<-List.map_id L]
 refine List.map_congr_left λx hx=>?_
 simp only[Function.comp,id];exact ahH (h.val x hx)
theorem aha (h:US u most L):xC.f u=some (L.length:Int):=by unfold xC.f;rw[h.len]
theorem E0 (h:US u most L) (k:Int):pK.f u k=some (AP L k):=by
 unfold pK.f AP;have hg:=h.get k
 cases hf:pe L k with
 |some x=>rw[hf] at hg;simp[aP,bt,hg]
 |none=>rw[hf] at hg;simp[aP,bt,hg];exact⟨J,J,J⟩
theorem aah (h:US u most L) (hn:u.next<1000000) (c g:Int):(most<=L.length->xB.f u c g=some (0,false,u))/\
 ((L.length:Int)<most-> ∃u',xB.f u c g=some (u.next,true,u')/\u'.next=u.next+1/\US u' most (L++[⟨u.next,c,g⟩])):=by
 have hb:=h.next
 have ho:=h.ob;unfold xB.f;rw[h.len,h.LZ];refine⟨λhl=>by rw[ag hl],λhl=>?_⟩
 have Pa:=h.fg;have gY:cN u.live u.next=none:=by
  rw[h.get]
  cases hf:pe L u.next with
  |none=>rfl
  |some x=>
   obtain⟨h1,h2⟩:=Cc hf;have:x.Id∈u.order.filter (λk=>bt u.live k):=by rw[h.ord];exact List.mem_map.2 ⟨x,h1,J⟩
   have:=h.aZ _ (List.mem_filter.1 this).1;omega
 have VK: ∀k,bt (cF u.live u.next ⟨u.next,c,g⟩) k=(decide (u.next=k)||bt u.live k):=λk=>Fy ..
 refine⟨_,by rw[ah U,ag U],by simp only;rw[wi U U],?_⟩
 rw[wi U U];refine⟨J,h.mb,by simp only;omega,DG h.keys _ _,?_,?_,?_,?_,?_,?_,?_⟩
 ·simp only;rw[W2,ah (by simp[bt,gY]),h.len];simp
 ·intro k hk;rw[VK] at hk;rcases Bool.or_eq_true_iff.1 hk with hk |hk
  ·exact⟨⟨u.next,c,g⟩,by simp,by simpa using hk⟩
  ·obtain⟨x,hx,e⟩:=h.has k hk;exact⟨x,by simp[hx],e⟩
 ·intro x hx;simp only[BG];rcases List.mem_append.1 hx with hx |hx
  ·rw[ah (λe=>by rw[e,h.val x hx] at gY;cases gY)];exact h.val x hx
  ·simp at hx;subst hx;simp
 ·simp only[VK,List.filter_append,List.map_append]
  congr 1
  ·rw[<-h.ord];refine List.filter_congr λk hk=>?_
   have:=h.aZ k hk;have:decide (u.next=k)=false:=by simp;omega
   rw[this];rfl
  ·simp
 ·intro k hk;simp only at hk⊢;rcases List.mem_append.1 hk with hk |hk
  ·have:=h.aZ k hk;omega
  ·simp at hk;omega
 ·have:=h.IQ;simp;omega
 ·rw[List.map_append,List.pairwise_append];refine⟨h.up,by simp,λa ha b jR=>?_⟩
  simp at jR;rw[<-h.ord] at ha;have:=h.aZ a (List.mem_filter.1 ha).1;omega
theorem akN {f:aI->aI} (hf: ∀x,(f x).Id=x.Id) (k:Int):(hU L k f).map (·.Id)=L.map (·.Id):=by
 unfold hU;rw[List.map_map];refine List.map_congr_left λx _=>?_
 simp only[Function.comp];split
 ·exact hf x
 ·rfl
theorem Y_ (h:US u most L) {k:Int} {x:aI} (hx:pe L k=some x) (f:aI->aI) (hf: ∀x,(f x).Id=x.Id):
 US (fC.mk u.most u.next (cF u.live k (f x)) u.order) most (hU L k f):=by
 obtain⟨h1,h2⟩:=Cc hx;have hg:cN u.live k=some x:=by rw[h.get,hx]
 have hh: ∀q,bt (cF u.live k (f x)) q=bt u.live q:=λq=>by
  rw[Fy]
  by_cases e:k=q
  ·subst e;simp[IF hg]
  ·simp[e]
 have Fh:=akN (L:=L) hf k;refine⟨h.LZ,h.mb,h.next,DG h.keys _ _,?_,?_,?_,?_,h.aZ,h.IQ,by rw[Fh];exact h.up⟩
 ·simp only;rw[W2,ag (IF hg),h.len];simp[hU]
 ·intro q hq;rw[hh] at hq;obtain⟨y,hy,e⟩:=h.has q hq;have:q∈(hU L k f).map (·.Id):=by rw[Fh];exact List.mem_map.2 ⟨y,hy,e⟩
  obtain⟨z,hz,e⟩:=List.mem_map.1 this;exact⟨z,hz,e⟩
 ·intro y hy;unfold hU at hy;obtain⟨z,hz,rfl⟩:=List.mem_map.1 hy;simp only[BG]
  by_cases e:z.Id=k
  ·rw[ag e,hf,e,ag J];have:z=x:=Dp h.up hz h1 (e.trans h2.symm);rw[this]
  ·rw[ah e,ah (λq=>e q.symm)];exact h.val z hz
 ·simp only[hh];rw[h.ord,Fh]
theorem aal (h:US u most L) (k g:Int): ∃u',ze.f u k g=some (Cd L k,u')/\u'.next=u.next/\US u' most (hU L k (λx=>⟨x.Id,x.Cell,g⟩)):=by
 unfold ze.f Cd
 first |unfold zh.f |unfold zi.f
 rw[E0 h];unfold AP
 cases hf:pe L k with
 |some x=>exact⟨_,J,J,Y_ h hf (λx=>⟨x.Id,x.Cell,g⟩) (λ_=>rfl)⟩
 |none=>
  refine⟨u,J,J,?_⟩;have:hU L k (λx=>⟨x.Id,x.Cell,g⟩)=L:=by
   unfold hU
   conv=>rhs;rw[<-List.map_id L]
   refine List.map_congr_left λx hx=>?_
   rw[ah (Jp hf x hx)];rfl
  rw[this];exact h
theorem ahA (h:US u most L) (k g:Int): ∃u',zg.f u k g=some (Cd L k,u')/\u'.next=u.next/\US u' most (hU L k (λx=>⟨x.Id,g,x.Goal⟩)):=by
 unfold zg.f Cd
 first |unfold zi.f |unfold zh.f
 rw[E0 h];unfold AP
 cases hf:pe L k with
 |some x=>exact⟨_,J,J,Y_ h hf (λx=>⟨x.Id,g,x.Goal⟩) (λ_=>rfl)⟩
 |none=>
  refine⟨u,J,J,?_⟩;have:hU L k (λx=>⟨x.Id,g,x.Goal⟩)=L:=by
   unfold hU
   conv=>rhs;rw[<-List.map_id L]
   refine List.map_congr_left λx hx=>?_
   rw[ah (Jp hf x hx)];rfl
  rw[this];exact h
theorem akM {k:Int} (hf:pe L k=none):mO L k=L:=by
 unfold mO;rw[List.filter_eq_self];intro x hx;simpa using Jp hf x hx
theorem MB (h:(L.map (·.Id)).Pairwise (· < ·)) {k:Int} {x:aI} (hx:pe L k=some x):(mO L k).length+1=L.length:=by
 obtain⟨h1,h2⟩:=Cc hx;clear hx
 induction L with
 |nil=>cases h1
 |cons y r ih=>
  rw[List.map_cons,List.pairwise_cons] at h;unfold mO at ih⊢
  by_cases e:y.Id=k
  ·have:r.filter (λz=>z.Id !=k)=r:=by
    rw[List.filter_eq_self];intro z hz;have:=h.1 z.Id (List.mem_map.2 ⟨z,hz,J⟩);simp;omega
   simp[e,this]
  ·have hxr:x∈r:=by
    rcases List.mem_cons.1 h1 with q |q
    ·subst q;exact absurd h2 e
    ·exact q
   have:=ih h.2 hxr;simp[e];omega
theorem acX (h:US u most L) (k:Int): ∃u',zf.f u k=some (Cd L k,u')/\u'.next=u.next/\US u' most (mO L k):=by
 unfold zf.f Cd;rw[E0 h];unfold AP
 cases hf:pe L k with
 |none=>rw[akM hf];exact⟨u,J,J,h⟩
 |some x=>
  obtain⟨h1,h2⟩:=Cc hf;have hg:cN u.live k=some x:=by rw[h.get,hf]
  have hh: ∀q,bt (eF u.live k) q=(!decide (k=q)&&bt u.live q):=λq=>aht h.keys ..
  have Di:u.order.filter (λq=>bt (eF u.live k) q)=(mO L k).map (·.Id):=by
   simp only[hh];rw[<-List.filter_filter,h.ord];unfold mO;rw[List.filter_map]
   congr 1
   refine List.filter_congr λy _=>?_
   simp only[Function.comp]
   by_cases e:y.Id=k
   ·simp[e]
   ·have: ¬k=y.Id:=λq=>e q.symm
    simp[e,this]
  have yx:US (fC.mk u.most u.next (eF u.live k) u.order) most (mO L k):=by
   refine⟨h.LZ,h.mb,h.next,LV h.keys _,?_,?_,?_,Di,h.aZ,h.IQ,?_⟩
   ·simp only;rw[aho,ag (IF hg),h.len];have:=MB h.up hf;omega
   ·intro q hq;rw[hh] at hq;simp only[Bool.and_eq_true,Bool.not_eq_true',decide_eq_false_iff_not] at hq;obtain⟨y,hy,e⟩:=h.has q hq.2;exact⟨y,by unfold mO;rw[List.mem_filter];exact⟨hy,by simp;omega⟩,e⟩
   ·intro y hy;unfold mO at hy;rw[List.mem_filter] at hy;have:y.Id≠k:=by simpa using hy.2
    simp only;rw[LW h.keys,ah (λq=>this q.symm)];exact h.val y hy.1
   ·exact h.up.sublist ((List.filter_sublist).map _)
  have hn:=h.next
  have hob:=h.ob;have hc:=h.fg;have Da:=MB h.up hf;simp only[aD,mV,gj,if_false];have Pt:((eF u.live k).length:Int)=(mO L k).length:=by have:=yx.len;simp only at this;omega
  split
  ·rw[RX yx];refine⟨_,J,J,?_⟩;have hl:((mO L k).length:Int)<=u.next:=yx.fg
   refine⟨h.LZ,h.mb,h.next,yx.keys,yx.len,yx.has,yx.val,?_,?_,by simpa using hl,yx.up⟩
   ·simp only;rw[List.filter_eq_self];intro q hq;obtain⟨y,hy,rfl⟩:=List.mem_map.1 hq;exact IF (yx.val y hy)
   ·intro q hq;simp only at hq⊢;rw[<-Di] at hq;exact h.aZ q (List.mem_filter.1 hq).1
  ·exact⟨_,J,J,yx⟩
def tR (n:Int) (f:fT):Prop:=(f.words.length:Int)=n/\ ∀c,0<=c->c<n->0<=rd f.words c/\rd f.words c<=4294967295
def nO (n:Int) (f:fT) (c:Int):Int:=if 0<=c/\c<n then rd f.words c-1 else-1
def sX (n:Int) (f:fT) (c:Int):Prop:=0<=c/\c<n/\rd f.words c=0
instance (n:Int) (f:fT) (c:Int):Decidable (sX n f c):=by unfold sX;infer_instance
def iO (f:fT) (c v k:Int):fT:=fT.mk (aG f.words (ax c) v) (f.count+k)
theorem adh (n:Int):uk.f n=some (if 1<=n/\n<=1048576 then some (fT.mk (cy n.toNat 0) 0) else none):=by
 unfold uk.f
 by_cases h:1<=n/\n<=1048576
 ·rw[ah bf,ag h,ag U]
 ·rw[ag bf,ah h]
theorem adi {n:Int} (h:1<=n):tR n (fT.mk (cy n.toNat 0) 0):=by
 refine⟨by simp;omega,λc c0 c1=>?_⟩
 rw[uC c0 U];omega
variable {n : Int} {f : fT}
theorem TB (hf:tR n f) (c:Int):zO.f f c=some (decide (0<=c/\c<n)):=by
 unfold zO.f;rw[hf.1]
 by_cases h:0<=c
 ·rw[ag U];simp[h]
 ·rw[ah U];simp[h]
theorem TJ (hf:tR n f) (c:Int):zN.f f c=some (decide (sX n f c)):=by
 unfold zN.f;rw[TB hf,hf.1]
 by_cases h:0<=c/\c<n
 ·by_cases q:rd f.words c=0
  ·have:sX n f c:=⟨h.1,h.2,q⟩;simp[h,q,this]
  ·have: ¬sX n f c:=λz=>q z.2.2
   simp[h,q,this]
 ·have: ¬sX n f c:=λz=>h ⟨z.1,z.2.1⟩
  simp[h,this]
theorem MO (hf:tR n f) (c:Int):rK.f f c=some (nO n f c):=by
 unfold rK.f nO;rw[TB hf,hf.1]
 by_cases h:0<=c/\c<n
 ·have:=hf.2 c h.1 h.2;simp only[aD,decide_eq_true h,mV,gj,if_false,ag h];rw[wi (x:=rd f.words c) U U,wi U U]
 ·simp only[aD,decide_eq_false h,vZ,if_true,ah h]
theorem Jc (hf:tR n f) {c v k:Int} (h0:0<=c) (h1:c<n) (v0:0<=v) (v1:v<=4294967295):tR n (iO f c v k):=by
 refine⟨by simp[iO,hf.1],λd d0 d1=>?_⟩
 unfold iO;simp only;rw[lR h0 (by rw[hf.1];exact h1) d0]
 split
 ·exact⟨v0,v1⟩
 ·exact hf.2 d d0 d1
theorem BL (hf:tR n f) {c v k d:Int} (h0:0<=c) (h1:c<n) (d0:0<=d):rd (iO f c v k).words d=if d=c then v else rd f.words d:=by
 unfold iO;simp only;rw[lR h0 (by rw[hf.1];exact h1) d0]
def EW (n:Int) (f:fT) (c id:Int):Bool×fT:=if sX n f c/\0<=id/\id<4294967295 then(true,iO f c (id+1) 1) else(false,f)
def EX (n:Int) (f:fT) (c:Int):Int×fT:=if nO n f c= -1 then(-1,f) else(nO n f c,iO f c 0 (-1))
theorem XG (hf:tR n f) (hc:0<=f.count/\f.count<=2000000) (c id:Int):ui.f f c id=some (EW n f c id):=by
 unfold ui.f EW;rw[TJ hf]
 by_cases h:sX n f c
 ·by_cases h2:0<=id/\id<4294967295
  ·obtain⟨q1,q2,q3⟩:=h;have h:sX n f c:=⟨q1,q2,q3⟩;simp only[aD,decide_eq_true h,mV];rw[ah bf,ag (by rw[hf.1];omega),ag ⟨h,h2⟩,wi (x:=id+1) U U,akS U U,wi U U]
   rfl
  ·simp only[aD,decide_eq_true h,mV];rw[ag bf,ah (λq=>h2 q.2)]
 ·simp only[aD,decide_eq_false h,vZ,Bool.true_or,if_true];rw[ah (λq=>h q.1)]
theorem Y3 (hf:tR n f) (hc: -2000000<=f.count/\f.count<=2000000) (c:Int):uj.f f c=some (EX n f c):=by
 unfold uj.f EX;rw[MO hf]
 by_cases h:nO n f c= -1
 ·simp[h]
 ·have bZ:0<=c/\c<n:=by
   unfold nO at h
   by_cases q:0<=c/\c<n
   ·exact q
   ·rw[ah q] at h;exact absurd J h
  simp only[aD];rw[ag (by simpa using h),ag (by rw[hf.1];omega),ah h,wi U U]
  rfl
def Ku (n:Int) (f:fT) (a b:Int):Bool×fT:=if nO n f a≠ -1/\sX n f b then(true,iO (iO f a 0 (-1)) b (nO n f a+1) 1) else(false,f)
theorem akZ {c:Int} (h:nO n f c≠ -1):0<=c/\c<n/\nO n f c=rd f.words c-1:=by
 unfold nO at h⊢
 by_cases q:0<=c/\c<n
 ·rw[ag q];exact⟨q.1,q.2,J⟩
 ·rw[ah q] at h;exact absurd J h
theorem aj1 (hf:tR n f) (hc:1<=f.count/\f.count<=2000000) (a b:Int):yd.f f a b=some (Ku n f a b):=by
 unfold yd.f Ku;rw[MO hf,TJ hf]
 by_cases h1:nO n f a= -1
 ·simp[h1]
 ·by_cases h2:sX n f b
  ·obtain⟨a0,a1,a2⟩:=akZ h1;have hr:=hf.2 a a0 a1;have hs:tR n (iO f a 0 (-1)):=Jc hf a0 a1 U U;have bD:b≠a:=λe=>by have:=h2.2.2;rw[e] at this;omega
   have h3:sX n (iO f a 0 (-1)) b:=⟨h2.1,h2.2.1,by rw[BL hf a0 a1 h2.1,ah bD];exact h2.2.2⟩
   have e:EX n f a=(nO n f a,iO f a 0 (-1)):=by unfold EX;rw[ah h1]
   have e2:EW n (iO f a 0 (-1)) b (nO n f a)=(true,iO (iO f a 0 (-1)) b (nO n f a+1) 1):=by
    unfold EW;rw[ag ⟨h3,by omega,by omega⟩]
   have q1:(nO n f a== -1)=false:=by simpa using h1
   simp only[aD,q1,gj,if_false,decide_eq_true h2,mV,Y3 hf (by omega: -2000000<=f.count/\f.count<=2000000),e]
   rw[XG hs (by simp[iO];omega),e2,ag ⟨h1,h2⟩];rfl
  ·simp[h1,h2]
theorem ah9 {s:List Int} (hb:s.length<=4611686018427387000): ∀(n k:Nat) (i:Int),i+n=s.length->0<=i->n<k->
 ∃r,ss.l0 k s i=some r/\(r≥0↔ ∃j,i<=j/\j<s.length/\(rd s j<0∨rd s j>5)):=by
 intro n
 induction n with
 |zero=>
  intro k i hi h0 hk;obtain⟨k,rfl⟩:=bl hk;exact⟨-1,by rw[ss.l0,ah U],⟨λq=>by omega,λ⟨j,j0,j1,_⟩=>by omega⟩⟩
 |succ n ih=>
  intro k i hi h0 hk;obtain⟨k,rfl⟩:=bl hk;rw[ss.l0,ag U,ag U];simp only[Fw.f,aD]
  by_cases e:rd s i<0∨rd s i>5
  ·rw[ag (by simpa using e)]
   exact⟨i,J,⟨λ_=>⟨i,by omega,by omega,e⟩,λ_=>by omega⟩⟩
  ·rw[ah (by simpa using e),wi U U]
   obtain⟨r,r1,r2⟩:=ih k (i+1) U U U;refine⟨r,r1,r2.trans ⟨λ⟨j,j0,j1,j2⟩=>⟨j,by omega,j1,j2⟩,λ⟨j,j0,j1,j2⟩=>?_⟩⟩
   by_cases z:j=i
   ·subst z;exact absurd j2 e
   ·exact⟨j,by omega,j1,j2⟩
theorem ah8 {s:List Int} (hb:s.length<=4611686018427387000): ∃r,Ei.f s=some r/\(r=true↔ ∃d∈s,d<0∨d>5):=by
 unfold Ei.f ss.f;obtain⟨r,r1,r2⟩:=ah9 hb s.length fuel 0 U U (by rw[cI];omega)
 rw[r1,aD];refine⟨decide (r≥0),J,?_⟩;rw[decide_eq_true_iff,r2];constructor
 ·rintro⟨j,j0,j1,j2⟩;exact⟨_,dR j0 j1,j2⟩
 ·rintro⟨d,hd,h⟩;obtain⟨j,j0,j1,rfl⟩:=ka hd;exact⟨j,j0,j1,h⟩
abbrev zp:=List aI×List fw×List Int
def dM (w h:Int) (u:aI) (d:Int):Int:=if 0<=d/\d<=3 then bB w h u.Cell d else-1
def nP (w h:Int) (now:List aI) (u:aI) (d:Int):Prop:=0<=dM w h u d/\ ∀x∈now,x.Cell≠dM w h u d
instance (w h:Int) (now:List aI) (u:aI) (d:Int):Decidable (nP w h now u d):=by unfold nP;infer_instance
def lJ (w h:Int) (s:zp) (i:Int) (u:aI) (d:Int):zp:=
 if nP w h s.1 u d then(s.1.set i.toNat ⟨u.Id,if dM w h u d=u.Goal then-1 else dM w h u d,u.Goal⟩,s.2.1++[⟨u.Id,dM w h u d⟩],if dM w h u d=u.Goal then s.2.2++[u.Id] else s.2.2) else s
def dV (w h:Int) (l:List aI) (aO:List Int):Nat->zp
 |0=>(l,[],[])
 |n+1=>lJ w h (dV w h l aO n) n (rd l (n:Int)) (rd aO (n:Int))
def il (w h:Int) (l:List aI) (aO:List Int):List aI×List fw×List Int:=
 ((dV w h l aO l.length).1.filter (λx=>decide (0<=x.Cell)),(dV w h l aO l.length).2.1,(dV w h l aO l.length).2.2)
structure Cq (w h:Int) (l:List aI) (n:Nat) (s:zp):Prop where
 len:s.1.length=l.length
 rest: ∀j:Int,n<=j->j<l.length->rd s.1 j=rd l j
 same: ∀j:Int,0<=j->j<l.length->(rd s.1 j).Id=(rd l j).Id/\(rd s.1 j).Goal=(rd l j).Goal
 cell: ∀j:Int,0<=j->j<l.length->(rd s.1 j).Cell= -1∨bQ w h (rd s.1 j).Cell
 apart: ∀i j:Int,0<=i->i<l.length->0<=j->j<l.length->i≠j->0<=(rd s.1 i).Cell->(rd s.1 i).Cell≠(rd s.1 j).Cell
 LY:s.2.1.length<=n
 Og:s.2.2.length<=n
theorem akr {w h c d:Int} (hs:0<=bB w h c d):bQ w h (bB w h c d):=by
 unfold bB at hs⊢;split
 ·unfold oa at hs⊢;rename_i q;rw[ag q] at hs;split
  ·rename_i z;exact⟨z.1,sS z.2.1 z.2.2.1 z.2.2.2.1 z.2.2.2.2⟩
  ·rename_i z;rw[ah z] at hs;omega
 ·rename_i q;rw[ah q] at hs;omega
theorem T_ {w h:Int} {u:aI} {d:Int} (hs:0<=dM w h u d):bQ w h (dM w h u d):=by
 unfold dM at hs⊢;split
 ·rename_i q;rw[ag q] at hs;exact akr hs
 ·rename_i q;rw[ah q] at hs;omega
theorem adr {w h:Int} {l:List aI} (hm:iL w h l):Cq w h l 0 (l,[],[]):=
 ⟨J,λ_ _ _=>rfl,λ_ _ _=>⟨J,J⟩,λj j0 j1=> .inr (hm.cell j0 j1),λi j i0 i1 j0 j1 tj _=>hm.apart i0 i1 j0 j1 tj,by simp,by simp⟩
theorem TL {w h:Int} {l:List aI} {n:Nat} {s:zp} (hi:Cq w h l n s) (hn:n<l.length) (d:Int):Cq w h l (n+1) (lJ w h s n (rd l (n:Int)) d):=by
 unfold lJ
 by_cases hc:nP w h s.1 (rd l (n:Int)) d
 ·rw[ag hc];obtain⟨c1,c2⟩:=hc;have e_:=T_ c1;have hlen:=hi.len;have hr: ∀j:Int,0<=j->rd (s.1.set (n:Int).toNat ⟨(rd l (n:Int)).Id,if dM w h (rd l (n:Int)) d=(rd l (n:Int)).Goal then-1 else dM w h (rd l (n:Int)) d,(rd l (n:Int)).Goal⟩) j=
   if j=n then⟨(rd l (n:Int)).Id,if dM w h (rd l (n:Int)) d=(rd l (n:Int)).Goal then-1 else dM w h (rd l (n:Int)) d,(rd l (n:Int)).Goal⟩ else rd s.1 j:=
   λj j0=>lR U U j0
  generalize dM w h (rd l (n:Int)) d=to at*;have gY: ∀j:Int,0<=j->j<l.length->(rd s.1 j).Cell≠to:=λj j0 j1=>c2 _ (dR j0 U);refine⟨by simpa using hlen,λj j0 j1=>?_,λj j0 j1=>?_,λj j0 j1=>?_,λi j i0 i1 j0 j1 tj hp=>?_,by simpa using hi.LY,?_⟩
  ·simp only;rw[hr j U,ah U];exact hi.rest j U j1
  ·simp only;rw[hr j j0]
   by_cases q:j=n
   ·rw[ag q,q];exact⟨J,J⟩
   ·rw[ah q];exact hi.same j j0 j1
  ·simp only;rw[hr j j0]
   by_cases q:j=n
   ·rw[ag q];simp only;split
    ·exact .inl J
    ·exact .inr e_
   ·rw[ah q];exact hi.cell j j0 j1
  ·simp only at hp⊢;rw[hr i i0] at hp⊢;rw[hr j j0]
   by_cases qi:i=n
   ·rw[ag qi] at hp⊢;rw[ah (show ¬j=(n:Int) from λq=>tj U)]
    simp only at hp⊢
    by_cases z:to=(rd l (n:Int)).Goal
    ·rw[ag z] at hp;omega
    ·rw[ah z];exact λe=>gY j j0 j1 e.symm
   ·rw[ah qi] at hp⊢
    by_cases qj:j=n
    ·rw[ag qj];simp only;split
     ·omega
     ·exact gY i i0 i1
    ·rw[ah qj];exact hi.apart i j i0 i1 j0 j1 tj hp
  ·simp only;have:=hi.Og;split<;>simp<;>omega
 ·rw[ah hc];exact⟨hi.len,λj j0 j1=>hi.rest j U j1,hi.same,hi.cell,hi.apart,by have:=hi.LY;omega,by have:=hi.Og;omega⟩
theorem zP {w h:Int} {l:List aI} (hm:iL w h l) (aO:List Int): ∀n:Nat,n<=l.length->Cq w h l n (dV w h l aO n)
 |0,_=>adr hm
 |n+1,hn=>TL (zP hm aO n U) U _
def Stood (m:List (Int×Bool)) (now:List aI):Prop:=(m.map (·.1)).Nodup/\ ∀c:Int,0<=c->(aP m c=true↔ ∃x∈now,x.Cell=c)
def Tu (f:nn) (u:aI) (d:Int):Option (Bool×nn×aI):=(mP.f f.w f.h u.Cell d).bind λv2=>(if v2<0 then(some true) else(some (aP f.ky v2))).bind λx3=>if x3=true then(some (true,f,u)) else(if(aa f.lj+1<=1099511627776) then(if(v2==u.Goal)=true then(if(aa f.gone+1<=1099511627776) then(some (false,(nn.mk f.w f.h (eF f.ky u.Cell) (f.lj++[(fw.mk u.Id v2)]) (f.gone++[u.Id])),(aI.mk u.Id v2 u.Goal))) else none) else(some (true,(nn.mk f.w f.h (cF (eF f.ky u.Cell) v2 true) (f.lj++[(fw.mk u.Id v2)]) f.gone),(aI.mk u.Id v2 u.Goal)))) else none)
theorem adn (f:nn) (u:aI) {d:Int} (hd:0<=d/\d<=3):wX.f f u d=Tu f u d:=by
 have:d=0∨d=1∨d=2∨d=3:=U;rcases this with rfl |rfl |rfl |rfl<;>rfl
theorem adm {w h:Int} {l:List aI} {n:Nat} {s:zp} (hi:Cq w h l n s) (hn:n<l.length) (hl:l.length<=1000000) (hc:bQ w h (rd l (n:Int)).Cell) {m:List (Int×Bool)} (iq:Stood m s.1) (d:Int):
 ∃m',wX.f ⟨w,h,m,s.2.1,s.2.2⟩ (rd l (n:Int)) d=some (decide (0<=(rd (lJ w h s n (rd l (n:Int)) d).1 (n:Int)).Cell),⟨w,h,m',(lJ w h s n (rd l (n:Int)) d).2.1,(lJ w h s n (rd l (n:Int)) d).2.2⟩,
  ⟨(rd l (n:Int)).Id,if nP w h s.1 (rd l (n:Int)) d then dM w h (rd l (n:Int)) d else(rd l (n:Int)).Cell,(rd l (n:Int)).Goal⟩)/\Stood m' (lJ w h s n (rd l (n:Int)) d).1:=by
 have hlen:=hi.len;have uq:rd s.1 (n:Int)=rd l (n:Int):=hi.rest n U U;have Pt:=hi.LY;have nS:=hi.Og;unfold lJ;generalize hu:rd l (n:Int)=u at*;have stay: ¬nP w h s.1 u d->(some (true,nn.mk w h m s.2.1 s.2.2,u):Option (Bool×nn×aI))=
  some (decide (0<=(rd (if nP w h s.1 u d then(s.1.set (n:Int).toNat ⟨u.Id,if dM w h u d=u.Goal then-1 else dM w h u d,u.Goal⟩,s.2.1++[⟨u.Id,dM w h u d⟩],if dM w h u d=u.Goal then s.2.2++[u.Id] else s.2.2) else s).1 (n:Int)).Cell),
   ⟨w,h,m,(if nP w h s.1 u d then(s.1.set (n:Int).toNat ⟨u.Id,if dM w h u d=u.Goal then-1 else dM w h u d,u.Goal⟩,s.2.1++[⟨u.Id,dM w h u d⟩],if dM w h u d=u.Goal then s.2.2++[u.Id] else s.2.2) else s).2.1,(if nP w h s.1 u d then(s.1.set (n:Int).toNat ⟨u.Id,if dM w h u d=u.Goal then-1 else dM w h u d,u.Goal⟩,s.2.1++[⟨u.Id,dM w h u d⟩],if dM w h u d=u.Goal then s.2.2++[u.Id] else s.2.2) else s).2.2⟩,
   ⟨u.Id,if nP w h s.1 u d then dM w h u d else u.Cell,u.Goal⟩):=by
  intro q;rw[ah q,ah q,uq];have:decide (0<=u.Cell)=true:=by simpa using hc.2.1
  rw[this]
 by_cases hd:0<=d/\d<=3
 ·have wU:dM w h u d=bB w h u.Cell d:=by unfold dM;rw[ag hd]
  rw[adn _ u hd];unfold Tu;simp only[F4,aD];rw[<-wU];have hbl:((if dM w h u d<0 then some true else some (aP m (dM w h u d))):Option Bool)=some (!decide (nP w h s.1 u d)):=by
   unfold nP
   by_cases q:dM w h u d<0
   ·rw[ag q];have:decide (0<=dM w h u d/\ ∀x∈s.1,x.Cell≠dM w h u d)=false:=by
     rw[decide_eq_false_iff_not];intro z;omega
    rw[this];rfl
   ·rw[ah q]
    congr 1
    have h0:=iq.2 (dM w h u d) U
    by_cases z:aP m (dM w h u d)=true
    ·rw[z];obtain⟨x,hx,e⟩:=h0.1 z;have:decide (0<=dM w h u d/\ ∀x∈s.1,x.Cell≠dM w h u d)=false:=by
      rw[decide_eq_false_iff_not];intro y;exact y.2 x hx e
     rw[this];rfl
    ·have z':aP m (dM w h u d)=false:=by simpa using z
     rw[z'];have:decide (0<=dM w h u d/\ ∀x∈s.1,x.Cell≠dM w h u d)=true:=by
      rw[decide_eq_true_iff];exact⟨by omega,λx hx e=>z (h0.2 ⟨x,hx,e⟩)⟩
     rw[this];rfl
  rw[hbl];simp only[aD]
  by_cases zW:nP w h s.1 u d
  ·have afU:=zW;obtain⟨c1,c2⟩:=afU;rw[ah (by simpa using zW),ag U]
   simp only[ag zW];have hr: ∀(v:aI) (j:Int),0<=j->rd (s.1.set (n:Int).toNat v) j=if j=n then v else rd s.1 j:=λv j j0=>lR U U j0
   have alG:u.Cell≠dM w h u d:=λe=>c2 u (by rw[<-uq];exact dR U U) e
   have jE: ∀(v:aI) (c:Int),(∃x∈s.1.set (n:Int).toNat v,x.Cell=c)↔v.Cell=c∨ ∃j:Int,0<=j/\j<l.length/\j≠n/\(rd s.1 j).Cell=c:=by
    intro v c;constructor
    ·rintro⟨x,hx,e⟩;obtain⟨j,j0,j1,rfl⟩:=ka hx;rw[hr v j j0] at e;rw[mo] at j1
     by_cases q:j=n
     ·rw[ag q] at e;exact .inl e
     ·rw[ah q] at e;exact .inr ⟨j,j0,by omega,q,e⟩
    ·rintro(e |⟨j,j0,j1,j2,e⟩)
     ·refine⟨rd (s.1.set (n:Int).toNat v) (n:Int),dR U (by rw[mo];omega),?_⟩
      rw[hr v n U,ag J];exact e
     ·refine⟨rd (s.1.set (n:Int).toNat v) j,dR j0 (by rw[mo];omega),?_⟩
      rw[hr v j j0,ah j2];exact e
   have hold: ∀c:Int,0<=c->(aP m c=true↔u.Cell=c∨ ∃j:Int,0<=j/\j<l.length/\j≠n/\(rd s.1 j).Cell=c):=by
    intro c c0;rw[iq.2 c c0];constructor
    ·rintro⟨x,hx,e⟩;obtain⟨j,j0,j1,rfl⟩:=ka hx
     by_cases q:j=n
     ·subst q;rw[uq] at e;exact .inl e
     ·exact .inr ⟨j,j0,by omega,q,e⟩
    ·rintro(e |⟨j,j0,j1,j2,e⟩)
     ·exact⟨rd s.1 (n:Int),dR U U,by rw[uq];exact e⟩
     ·exact⟨rd s.1 j,dR j0 U,e⟩
   have Uv: ∀j:Int,0<=j->j<l.length->j≠n->(rd s.1 j).Cell≠u.Cell:=by
    intro j j0 j1 j2 e;have:=hi.apart n j U U j0 j1 (λz=>j2 z.symm) (by rw[uq];exact hc.2.1)
    rw[uq] at this;exact this e.symm
   by_cases hg:dM w h u d=u.Goal
   ·rw[ag (by simpa using hg),ag U]
    refine⟨eF m u.Cell,?_,LV iq.1 _,λc c0=>?_⟩
    ·simp only[ag hg];rw[hr _ n U,ag J];simp
    ·rw[W3 iq.1,ag hg,jE];simp only
     by_cases q:u.Cell=c
     ·rw[ag q];constructor
      ·intro z;cases z
      ·rintro(z |⟨j,j0,j1,j2,e⟩)
       ·omega
       ·exact absurd (e.trans q.symm) (Uv j j0 j1 j2)
     ·rw[ah q,hold c c0];constructor
      ·rintro(z |z)
       ·exact absurd z q
       ·exact .inr z
      ·rintro(z |z)
       ·omega
       ·exact .inr z
   ·rw[ah (by simpa using hg)]
    refine⟨cF (eF m u.Cell) (dM w h u d) true,?_,DG (LV iq.1 _) _ _,λc c0=>?_⟩
    ·simp only[ah hg];rw[hr _ n U,ag J];simp[c1]
    ·rw[rX,W3 iq.1,ah hg,jE];simp only
     by_cases z:dM w h u d=c
     ·rw[ag z];exact⟨λ_=> .inl z,λ_=>rfl⟩
     ·rw[ah z]
      by_cases q:u.Cell=c
      ·rw[ag q];constructor
       ·intro y;cases y
       ·rintro(y |⟨j,j0,j1,j2,e⟩)
        ·exact absurd y z
        ·exact absurd (e.trans q.symm) (Uv j j0 j1 j2)
      ·rw[ah q,hold c c0];constructor
       ·rintro(y |y)
        ·exact absurd y q
        ·exact .inr y
       ·rintro(y |y)
        ·exact absurd y z
        ·exact .inr y
  ·rw[ag (by simpa using zW)]
   refine⟨m,stay zW,?_⟩;rw[ah zW];exact iq
 ·have zW: ¬nP w h s.1 u d:=by
   unfold nP dM;rw[ah hd];intro q;omega
  unfold wX.f;rw[ah bf,ah bf,ah bf,ah bf];refine⟨m,stay zW,?_⟩;rw[ah zW];exact iq
theorem aky {w h:Int} {l:List aI} {aO:List Int} (hb:l.length<=1000000): ∀(n k:Nat) (i:Int) (m:List (Int×Bool)),i+n=l.length->0<=i->n<k->
 (m.map (·.1)).Nodup->(∀c,aP m c=true↔ ∃q,0<=q/\q<i/\(rd l q).Cell=c)->
 ∃m',jU.l0 k w h l aO m i=jU.l1 fuel w h l aO [] w h m' [] [] 0/\Stood m' l:=by
 intro n
 induction n with
 |zero=>
  intro k i m hi h0 hk hn hm;obtain⟨k,rfl⟩:=bl hk;refine⟨m,by rw[jU.l0,ah U],hn,λc _=>?_⟩
  rw[hm c];constructor
  ·rintro⟨q,q0,q1,e⟩;exact⟨_,dR q0 U,e⟩
  ·rintro⟨x,hx,e⟩;obtain⟨q,q0,q1,rfl⟩:=ka hx;exact⟨q,q0,by omega,e⟩
 |succ n ih=>
  intro k i m hi h0 hk hn hm;obtain⟨k,rfl⟩:=bl hk;rw[jU.l0,ag U,ag U,wi U U];refine ih k (i+1) _ U U U (DG hn _ _) (λc=>?_);rw[rX]
  by_cases e:(rd l i).Cell=c
  ·rw[ag e];exact⟨λ_=>⟨i,h0,by omega,e⟩,λ_=>rfl⟩
  ·rw[ah e,hm c];constructor
   ·rintro⟨q,q0,q1,q2⟩;exact⟨q,q0,by omega,q2⟩
   ·rintro⟨q,q0,q1,q2⟩
    by_cases z:q=i
    ·subst z;exact absurd q2 e
    ·exact⟨q,q0,by omega,q2⟩
def qM (s:zp) (n:Nat):List aI:=(s.1.take n).filter (λx=>decide (0<=x.Cell))
theorem T8 {w h:Int} {l:List aI} {n:Nat} {s:zp} (hi:Cq w h l n s) (hn:n<l.length) (d:Int):
 rd (lJ w h s n (rd l (n:Int)) d).1 (n:Int)=⟨(rd l (n:Int)).Id,if nP w h s.1 (rd l (n:Int)) d then(if dM w h (rd l (n:Int)) d=(rd l (n:Int)).Goal then-1 else dM w h (rd l (n:Int)) d) else(rd l (n:Int)).Cell,(rd l (n:Int)).Goal⟩:=by
 have hlen:=hi.len;unfold lJ
 by_cases hc:nP w h s.1 (rd l (n:Int)) d
 ·rw[ag hc,ag hc];rw[lR U U U,ag J]
 ·rw[ah hc,ah hc,hi.rest n U U]
theorem TK {w h:Int} {l:List aI} {n:Nat} {s:zp} (hi:Cq w h l n s) (hn:n<l.length) (d:Int):
 qM (lJ w h s n (rd l (n:Int)) d) (n+1)=qM s n++(if 0<=(rd (lJ w h s n (rd l (n:Int)) d).1 (n:Int)).Cell then[rd (lJ w h s n (rd l (n:Int)) d).1 (n:Int)] else[]):=by
 have tg:=TL hi hn d;have rP:=tg.len;have ht:(lJ w h s n (rd l (n:Int)) d).1.take n=s.1.take n:=by
  unfold lJ;split
  ·simp only;rw[show(n:Int).toNat=n by simp,List.take_set_of_le (l7 _)]
  ·rfl
 unfold qM;have aS:n<(lJ w h s n (rd l (n:Int)) d).1.length:=U;rw[List.take_add_one,ht,List.getElem?_eq_getElem aS,List.filter_append,FL aS]
 congr 1
 simp only[Option.toList_some,xO,List.filter_nil,decide_eq_true_eq]
theorem adH {w h:Int} {l:List aI} {aO:List Int} (hm:iL w h l) (hb:l.length<=1000000) (hd:aO.length=l.length): ∀(m k:Nat) (n:Nat) (st:List (Int×Bool)),n+m=l.length->m<k->Stood st (dV w h l aO n).1->
 jU.l1 k w h l aO (qM (dV w h l aO n) n) w h st (dV w h l aO n).2.1 (dV w h l aO n).2.2 (n:Int)=some ((il w h l aO).1,(il w h l aO).2.1,(il w h l aO).2.2,0):=by
 intro m
 induction m with
 |zero=>
  intro k n st hn hk iq;obtain⟨k,rfl⟩:=bl hk;have hi:=zP hm aO n U;rw[jU.l1,ah U];have:n=l.length:=U;subst this;unfold il qM;rw[Cx (by rw[hi.len];omega)]
 |succ m ih=>
  intro k n st hn hk iq;obtain⟨k,rfl⟩:=bl hk;have hi:=zP hm aO n U;have aS:n<l.length:=U;rw[jU.l1,ag U,ag U,ag U];obtain⟨st',e1,e2⟩:=adm hi aS hb (hm.cell U U) iq (rd aO (n:Int));have um:=T8 hi aS (rd aO (n:Int));have Ht:=TK hi aS (rd aO (n:Int));have alB:(qM (dV w h l aO n) n).length<=n:=by
   unfold qM;refine Nat.le_trans (EE ..) bf
  simp only[e1,aD];rw[wi U U];have HT:(n:Int)+1=((n+1:Nat):Int):=U;have HI:lJ w h (dV w h l aO n) n (rd l (n:Int)) (rd aO (n:Int))=dV w h l aO (n+1):=rfl;rw[HI] at Ht um e2;have:=ih k (n+1) st' U U e2
  by_cases hp:0<=(rd (dV w h l aO (n+1)).1 (n:Int)).Cell
  ·rw[ag (by rw[HI];simpa using hp),ag U]
   rw[ag hp] at Ht;rw[HT,<-this,Ht,HI];have hu:(⟨(rd l (n:Int)).Id,if nP w h (dV w h l aO n).1 (rd l (n:Int)) (rd aO (n:Int)) then dM w h (rd l (n:Int)) (rd aO (n:Int)) else(rd l (n:Int)).Cell,(rd l (n:Int)).Goal⟩:aI)=rd (dV w h l aO (n+1)).1 (n:Int):=by
    rw[um] at hp⊢;simp only at hp⊢
    by_cases hc:nP w h (dV w h l aO n).1 (rd l (n:Int)) (rd aO (n:Int))
    ·rw[ag hc] at hp⊢;rw[ag hc]
     by_cases hg:dM w h (rd l (n:Int)) (rd aO (n:Int))=(rd l (n:Int)).Goal
     ·rw[ag hg] at hp;omega
     ·rw[ah hg]
    ·rw[ah hc,ah hc]
   rw[hu]
  ·rw[ah (by rw[HI];simpa using hp)]
   rw[ah hp,oq] at Ht;rw[HT,<-this,Ht,HI]
def MR (aO:List Int) (n:Nat):Prop:=aO.length=n/\ ∀d∈aO,0<=d/\d<=5
theorem go_ok {w h:Int} {l:List aI} {aO:List Int} (hm:iL w h l) (hb:l.length<=1000000) (hd:MR aO l.length):
 jU.f w h l aO=some ((il w h l aO).1,(il w h l aO).2.1,(il w h l aO).2.2,0):=by
 unfold jU.f;obtain⟨r,r1,r2⟩:=XE (w:=w) (h:=h) (l:=l) U;obtain⟨o,o1,o2⟩:=ah8 (s:=aO) (by have:=hd.1;omega)
 have ho:o=false:=by
  rw[Bool.eq_false_iff];intro q;obtain⟨d,VA,hx⟩:=o2.1 q;have:=hd.2 d VA;omega
 rw[r1,aD,r2.2 hm,o1,ho];rw[ah (by simp[hd.1])]
 simp only[aD,gj,if_false];obtain⟨m',e1,e2⟩:=aky (w:=w) (h:=h) (l:=l) (aO:=aO) hb l.length fuel 0 [] U U (by rw[cI];omega) aX (λc=>by
  constructor
  ·intro q;simp[aP,cN] at q
  ·rintro⟨q,q0,q1,_⟩;omega)
 rw[e1];exact adH hm hb hd.1 l.length fuel 0 m' U (by rw[cI];omega) e2
section
variable {w h : Int} {l : List aI} {aO : List Int}
abbrev uy (w h:Int) (l:List aI) (aO:List Int) (n:Nat):Prop:=nP w h (dV w h l aO n).1 (rd l (n:Int)) (rd aO (n:Int))
abbrev me (w h:Int) (l:List aI) (aO:List Int) (n:Nat):Int:=dM w h (rd l (n:Int)) (rd aO (n:Int))
def FA (w h:Int) (l:List aI) (aO:List Int) (n:Nat):Int:=if uy w h l aO n then(if me w h l aO n=(rd l (n:Int)).Goal then-1 else me w h l aO n) else(rd l (n:Int)).Cell
theorem P9 (n:Nat):(dV w h l aO (n+1)).2.1=(dV w h l aO n).2.1++(if uy w h l aO n then[⟨(rd l (n:Int)).Id,me w h l aO n⟩] else[]):=by
 show(lJ w h (dV w h l aO n) n (rd l (n:Int)) (rd aO (n:Int))).2.1=_
 unfold lJ
 by_cases hc:uy w h l aO n
 ·rw[ag hc,ag hc]
 ·rw[ah hc,ah hc,oq]
theorem TY (n:Nat):(dV w h l aO (n+1)).2.2=(dV w h l aO n).2.2++(if uy w h l aO n/\me w h l aO n=(rd l (n:Int)).Goal then[(rd l (n:Int)).Id] else[]):=by
 show(lJ w h (dV w h l aO n) n (rd l (n:Int)) (rd aO (n:Int))).2.2=_
 unfold lJ
 by_cases hc:uy w h l aO n
 ·rw[ag hc];simp only
  by_cases hg:me w h l aO n=(rd l (n:Int)).Goal
  ·rw[ag hg,ag ⟨hc,hg⟩]
  ·rw[ah hg,ah (λq=>hg q.2),oq]
 ·rw[ah hc,ah (λq=>hc q.1),oq]
theorem abk (hm:iL w h l) {n:Nat} (hn:n<l.length):rd (dV w h l aO (n+1)).1 (n:Int)=⟨(rd l (n:Int)).Id,FA w h l aO n,(rd l (n:Int)).Goal⟩:=
 T8 (zP hm aO n U) hn _
theorem Nh (hm:iL w h l) {n:Nat} (hn:n<l.length):qM (dV w h l aO (n+1)) (n+1)=qM (dV w h l aO n) n++(if 0<=FA w h l aO n then[⟨(rd l (n:Int)).Id,FA w h l aO n,(rd l (n:Int)).Goal⟩] else[]):=by
 have:=TK (zP hm aO n U) hn (rd aO (n:Int));have e:lJ w h (dV w h l aO n) n (rd l (n:Int)) (rd aO (n:Int))=dV w h l aO (n+1):=rfl;rw[e,abk hm hn] at this;exact this
theorem akC (hm:iL w h l): ∀(d n:Nat),n+d=l.length-> ∃A M G,(il w h l aO).1=qM (dV w h l aO n) n++A/\(il w h l aO).2.1=(dV w h l aO n).2.1++M/\(il w h l aO).2.2=(dV w h l aO n).2.2++G/\
 (∀m∈M,∃j:Int,n<=j/\j<l.length/\m.Id=(rd l j).Id)/\(∀g∈G,∃j:Int,n<=j/\j<l.length/\g=(rd l j).Id):=by
 intro d
 induction d with
 |zero=>
  intro n hn;have:n=l.length:=U;subst this;have hi:=zP hm aO l.length (l7 _);refine⟨[],[],[],?_,by simp[il],by simp[il],by simp,by simp⟩
  unfold il qM;rw[Cx (by rw[hi.len];omega),oq]
 |succ d ih=>
  intro n hn;obtain⟨A,M,G,h1,h2,h3,h4,h5⟩:=ih (n+1) U;rw[Nh hm U,pn] at h1;rw[P9,pn] at h2;rw[TY,pn] at h3;refine⟨_,_,_,h1,h2,h3,λm Pu=>?_,λg hg=>?_⟩
  ·rcases List.mem_append.1 Pu with q |q
   ·split at q
    ·simp at q;subst q;exact⟨n,by omega,by omega,rfl⟩
    ·cases q
   ·obtain⟨j,j0,j1,e⟩:=h4 m q;exact⟨j,by omega,j1,e⟩
  ·rcases List.mem_append.1 hg with q |q
   ·split at q
    ·simp at q;subst q;exact⟨n,by omega,by omega,rfl⟩
    ·cases q
   ·obtain⟨j,j0,j1,e⟩:=h5 g q;exact⟨j,by omega,j1,e⟩
theorem parts (hm:iL w h l) {n:Nat} (hn:n<l.length): ∃A M G,(il w h l aO).1=qM (dV w h l aO n) n++((if 0<=FA w h l aO n then[⟨(rd l (n:Int)).Id,FA w h l aO n,(rd l (n:Int)).Goal⟩] else[])++A)/\
 (il w h l aO).2.1=(dV w h l aO n).2.1++((if uy w h l aO n then[⟨(rd l (n:Int)).Id,me w h l aO n⟩] else[])++M)/\
 (il w h l aO).2.2=(dV w h l aO n).2.2++((if uy w h l aO n/\me w h l aO n=(rd l (n:Int)).Goal then[(rd l (n:Int)).Id] else[])++G)/\
 (∀m∈M,(rd l (n:Int)).Id<m.Id)/\(∀g∈G,(rd l (n:Int)).Id<g):=by
 obtain⟨A,M,G,h1,h2,h3,h4,h5⟩:=akC (aO:=aO) hm (l.length-(n+1)) (n+1) U;rw[Nh hm U,pn] at h1;rw[P9,pn] at h2;rw[TY,pn] at h3;refine⟨A,M,G,h1,h2,h3,λm Pu=>?_,λg hg=>?_⟩
 ·obtain⟨j,j0,j1,e⟩:=h4 m Pu;rw[e];exact hm.Dq U U j1
 ·obtain⟨j,j0,j1,e⟩:=h5 g hg;rw[e];exact hm.Dq U U j1
theorem ahB (hm:iL w h l) {n:Nat} (hn:n<l.length):((dV w h l aO n).2.1.length<(il w h l aO).2.1.length/\(rd (il w h l aO).2.1 ((dV w h l aO n).2.1.length:Int)).Id=(rd l (n:Int)).Id↔uy w h l aO n)/\
 (uy w h l aO n->rd (il w h l aO).2.1 ((dV w h l aO n).2.1.length:Int)=⟨(rd l (n:Int)).Id,me w h l aO n⟩):=by
 obtain⟨A,M,G,_,h2,_,h4,_⟩:=parts (aO:=aO) hm hn;rw[h2]
 by_cases hc:uy w h l aO n
 ·rw[ag hc];have e:rd ((dV w h l aO n).2.1++([⟨(rd l (n:Int)).Id,me w h l aO n⟩]++M)) ((dV w h l aO n).2.1.length:Int)=⟨(rd l (n:Int)).Id,me w h l aO n⟩:=by
   rw[nt U,Int.sub_self];rfl
  rw[e];exact⟨⟨λ_=>hc,λ_=>⟨by simp,J⟩⟩,λ_=>rfl⟩
 ·rw[ah hc,List.nil_append];refine⟨⟨λq=>?_,λq=>absurd q hc⟩,λq=>absurd q hc⟩
  obtain⟨q1,q2⟩:=q;rw[tX] at q1;rw[nt U,Int.sub_self] at q2;have:=h4 _ (dR (a:=M) (i:=0) U U);omega
end
structure FS (f:fT) (n:Int) (L:List aI):Prop where
 fl:tR n f
 fg:f.count=L.length
 at_: ∀x∈L,0<=x.Cell/\x.Cell<n/\rd f.words x.Cell=x.Id+1
 only: ∀c,0<=c->c<n->rd f.words c≠0-> ∃x∈L,x.Cell=c
structure CS (c:eK) (w h most:Int) (L:List aI):Prop where
 w_:c.w=w
 h_:c.h=h
 m_:c.most=most
 may:gS w h
 us:US c.db most L
 fl:FS c.floor (w*h) L
 ok: ∀x∈L,bQ w h x.Cell/\bQ w h x.Goal/\x.Cell≠x.Goal
 kG:(L.length:Int)<=most
def pV (L:List aI) (c:Int):Int:=match L.find? (λx=>x.Cell==c) with
 |some x=>x.Id
 |none=> -1
variable {c : eK} {w h most : Int} {L : List aI}
theorem US.Ig {u:fC} (hu:US u most L) {x:aI} (hx:x∈L):0<=x.Id/\x.Id<u.next:=by
 have:x.Id∈u.order.filter (λk=>bt u.live k):=by rw[hu.ord];exact List.mem_map.2 ⟨x,hx,J⟩
 exact hu.aZ _ (List.mem_filter.1 this).1
theorem CS.inj (hc:CS c w h most L) {x y:aI} (hx:x∈L) (hy:y∈L) (e:x.Cell=y.Cell):x=y:=by
 have h1:=(hc.fl.at_ x hx).2.2;have h2:=(hc.fl.at_ y hy).2.2;rw[e] at h1;exact Dp hc.us.up hx hy U
theorem GW (hc:CS c w h most L) {x:aI} (hx:x∈L):pV L x.Cell=x.Id:=by
 unfold pV
 cases hf:L.find? (λy=>y.Cell==x.Cell) with
 |none=>have:=List.find?_eq_none.1 hf x hx;simp at this
 |some y=>
  have h1:=List.mem_of_find?_eq_some hf;have h2:y.Cell=x.Cell:=by simpa using List.find?_some hf
  simp only;rw[hc.inj h1 hx h2]
theorem NH {cell:Int} (h0: ∀x∈L,x.Cell≠cell):pV L cell= -1:=by
 unfold pV
 cases hf:L.find? (λy=>y.Cell==cell) with
 |none=>rfl
 |some y=>
  have h1:=List.mem_of_find?_eq_some hf;have h2:y.Cell=cell:=by simpa using List.find?_some hf
  exact absurd h2 (h0 y h1)
theorem abX (hc:CS c w h most L) {cell:Int}:pV L cell= -1↔ ∀x∈L,x.Cell≠cell:=by
 constructor
 ·intro q x hx e;rw[<-e,GW hc hx] at q;have:=(hc.us.Ig hx).1;omega
 ·exact NH
theorem MN (hc:CS c w h most L) (cell:Int):nO (w*h) c.floor cell=pV L cell:=by
 unfold nO
 by_cases q:0<=cell/\cell<w*h
 ·rw[ag q]
  by_cases z: ∃x∈L,x.Cell=cell
  ·obtain⟨x,hx,rfl⟩:=z;rw[GW hc hx,(hc.fl.at_ x hx).2.2];omega
  ·have hn: ∀x∈L,x.Cell≠cell:=λx hx e=>z ⟨x,hx,e⟩
   rw[NH hn];have:rd c.floor.words cell=0:=jL λy=>z (hc.fl.only cell q.1 q.2 y);omega
 ·rw[ah q,NH];intro x hx e;have:=hc.fl.at_ x hx;exact q ⟨by omega,by omega⟩
theorem acH (hc:CS c w h most L) (cell:Int):Bl.f c cell=some (pV L cell):=by
 unfold Bl.f;rw[MO hc.fl.fl,MN hc];rfl
theorem Ta (hc:CS c w h most L):qH.f c=some L:=by
 unfold qH.f;rw[aao hc.us];rfl
theorem NM (hc:CS c w h most L) (cell:Int):wx.f c cell=some (decide (bQ w h cell)):=by
 unfold wx.f;rw[hc.w_,hc.h_,si,aD]
 congr 1
 by_cases q:bQ w h cell
 ·rw[decide_eq_true q,decide_eq_true_iff];have: ¬aQ w h cell<0:=λz=>AK.1 z q
  omega
 ·rw[decide_eq_false q,decide_eq_false_iff_not];have:=AK.2 q;omega
theorem acn (w h most:Int): ∃r,wz.f w h most=some r/\(r.isSome=true↔gS w h/\1<=most/\most<=65536)/\ ∀c,r=some c->CS c w h most []/\c.db.next=0:=by
 unfold wz.f;rw[An,aD]
 by_cases q:gS w h/\1<=most/\most<=65536
 ·obtain⟨q1,q2,q3⟩:=q;have hp:=rW q1;rw[ah (by rw[decide_eq_true q1];simp;omega),ahS,ag ⟨q2,q3⟩,aD,wi U U]
  simp only[dA,adh];rw[ag hp];refine⟨_,J,⟨λ_=>⟨q1,q2,q3⟩,λ_=>rfl⟩,λc e=>?_⟩
  simp only[Option.some.injEq] at e;subst e;refine⟨⟨J,J,J,q1,ahU ⟨q2,q3⟩,⟨adi hp.1,J,by simp,λd d0 d1 hd=>?_⟩,by simp,by simp;omega⟩,J⟩
  exact absurd (uC d0 U) hd
 ·refine⟨none,?_,⟨λz=>by simp at z,λz=>absurd z q⟩,λc e=>by cases e⟩
  rw[ag]
  by_cases z:gS w h
  ·rw[decide_eq_true z];simp;omega
  ·rw[decide_eq_false z];simp
theorem CS.next (hc:CS c w h most L):0<=c.db.next/\c.db.next<=1000000:=hc.us.next
theorem adk {f:fT} {n:Int} (hf:FS f n L) {x:aI} (h0:0<=x.Cell) (h1:x.Cell<n) (gY: ∀y∈L,y.Cell≠x.Cell) (i0:0<=x.Id) (i1:x.Id<4294967295):FS (iO f x.Cell (x.Id+1) 1) n (L++[x]):=by
 refine⟨Jc hf.fl h0 h1 U U,by simp[iO,hf.fg],λy hy=>?_,λd d0 d1 hd=>?_⟩
 ·rcases List.mem_append.1 hy with q |q
  ·obtain⟨a,b,e⟩:=hf.at_ y q;refine⟨a,b,?_⟩;rw[BL hf.fl h0 h1 a,ah (gY y q)];exact e
  ·simp at q;subst q;exact⟨h0,h1,by rw[BL hf.fl h0 h1 h0,ag J]⟩
 ·rw[BL hf.fl h0 h1 d0] at hd
  by_cases q:d=x.Cell
  ·exact⟨x,by simp,q.symm⟩
  ·rw[ah q] at hd;obtain⟨y,hy,e⟩:=hf.only d d0 d1 hd;exact⟨y,by simp[hy],e⟩
theorem ado {f:fT} {n:Int} (hf:FS f n L) (Ib:(L.map (·.Id)).Pairwise (· < ·)) {x:aI} (hx:x∈L):FS (iO f x.Cell 0 (-1)) n (mO L x.Id):=by
 obtain⟨h0,h1,h2⟩:=hf.at_ x hx;have hl:=MB Ib (Rc Ib hx);refine⟨Jc hf.fl h0 h1 U U,by simp[iO,hf.fg];omega,λy hy=>?_,λd d0 d1 hd=>?_⟩
 ·unfold mO at hy;obtain⟨q1,q2⟩:=List.mem_filter.1 hy;have bD:y.Id≠x.Id:=by simpa using q2
  obtain⟨a,b,e⟩:=hf.at_ y q1;refine⟨a,b,?_⟩;rw[BL hf.fl h0 h1 a,ah]
  ·exact e
  ·intro z;rw[z,h2] at e;omega
 ·rw[BL hf.fl h0 h1 d0] at hd
  by_cases q:d=x.Cell
  ·rw[ag q] at hd;exact absurd J hd
  ·rw[ah q] at hd;obtain⟨y,hy,e⟩:=hf.only d d0 d1 hd;refine⟨y,?_,e⟩;unfold mO;rw[List.mem_filter];refine⟨hy,?_⟩;have:y.Id≠x.Id:=λz=>q (by rw[<-e,Dp Ib hy hx z])
   simpa using this
theorem NZ {k:Int} {x:aI} (hx:x∈mO L k):x∈L:=(List.mem_filter.1 hx).1
theorem NK (hc:CS c w h most L) {x:aI} (hx:x∈L): ∃c',qI.f c x=some c'/\CS c' w h most (mO L x.Id)/\c'.db.next=c.db.next:=by
 unfold qI.f;obtain⟨u',e1,e2,e3⟩:=acX hc.us x.Id;have nj:=hc.us.Ig hx;have hw:nO (w*h) c.floor x.Cell=x.Id:=by rw[MN hc,GW hc hx]
 have jD:=hc.us.fg;have HT:=hc.next
 have Pa:=hc.fl.fg;have et:EX (w*h) c.floor x.Cell=(x.Id,iO c.floor x.Cell 0 (-1)):=by unfold EX;rw[hw,ah U]
 rw[e1,aD,Y3 hc.fl.fl U,et];refine⟨_,J,⟨hc.w_,hc.h_,hc.m_,hc.may,e3,ado hc.fl hc.us.up hx,λy hy=>hc.ok y (NZ hy),?_⟩,e2⟩;have:=MB hc.us.up (Rc hc.us.up hx);have:=hc.kG;omega
def oC (w h most:Int) (L:List aI) (next cell goal:Int):Int×Int×List aI:=
 if ¬bQ w h cell∨ ¬bQ w h goal then(-1,7,L) else if pV L cell≠ -1 then(-1,10,L) else if most<=L.length then(-1,11,L) else if cell=goal then(-1,13,L) else(next,0,L++[⟨next,cell,goal⟩])
theorem ala (hc:CS c w h most L) (cell goal:Int):wy.f c 3 cell goal=some (if cell=goal then 13 else 0):=by
 unfold wy.f;rw[ah aX,ah aX,ah aX,ag aX]
 by_cases q:cell=goal
 ·rw[ag (by simpa using q),ag q]
 ·rw[ah (by simpa using q),ah q]
theorem S_ {next cell goal:Int} (a: ¬bQ w h cell∨ ¬bQ w h goal):oC w h most L next cell goal=(-1,7,L):=by unfold oC;rw[ag a]
theorem acB {next cell goal:Int} (a:bQ w h cell) (b:bQ w h goal) (d:pV L cell≠ -1):oC w h most L next cell goal=(-1,10,L):=by
 unfold oC;rw[ah (λq=>q.elim (λz=>z a) (λz=>z b)),ag d]
theorem acC {next cell goal:Int} (a:bQ w h cell) (b:bQ w h goal) (d:pV L cell= -1) (e:most<=L.length):oC w h most L next cell goal=(-1,11,L):=by
 unfold oC;rw[ah (λq=>q.elim (λz=>z a) (λz=>z b)),ah (λq=>q d),ag e]
theorem acD {next cell goal:Int} (a:bQ w h cell) (b:bQ w h goal) (d:pV L cell= -1) (e: ¬most<=L.length) (g:cell=goal):oC w h most L next cell goal=(-1,13,L):=by
 unfold oC;rw[ah (λq=>q.elim (λz=>z a) (λz=>z b)),ah (λq=>q d),ah e,ag g]
theorem acE {next cell goal:Int} (a:bQ w h cell) (b:bQ w h goal) (d:pV L cell= -1) (e: ¬most<=L.length) (g: ¬cell=goal):oC w h most L next cell goal=(next,0,L++[⟨next,cell,goal⟩]):=by
 unfold oC;rw[ah (λq=>q.elim (λz=>z a) (λz=>z b)),ah (λq=>q d),ah e,ah g]
theorem ak' (hc:CS c w h most L) (cell goal next:Int):wy.f c 0 cell goal=some (oC w h most L next cell goal).2.1:=by
 unfold wy.f;rw[ag aX,NM hc,NM hc];simp only[aD,MO hc.fl.fl,MN hc,aha hc.us,hc.m_]
 by_cases a:bQ w h cell
 ·by_cases b:bQ w h goal
  ·simp only[decide_eq_true a,decide_eq_true b,mV,aD,gj,if_false]
   by_cases d:pV L cell= -1
   ·rw[ah (by simpa using d)]
    by_cases e:most<=(L.length:Int)
    ·rw[ag U,acC a b d e]
    ·rw[ah U]
     by_cases g:cell=goal
     ·rw[ag (by simpa using g),acD a b d e g]
     ·rw[ah (by simpa using g),acE a b d e g]
   ·rw[ag (by simpa using d),acB a b d]
  ·rw[S_ (.inr b)];simp only[decide_eq_true a,decide_eq_false b,mV,vZ,aD,gj,if_false,if_true]
 ·rw[S_ (.inl a)];simp only[decide_eq_false a,vZ,aD,if_true]
theorem acF (hc:CS c w h most L) (hn:c.db.next<1000000) (cell goal:Int): ∃c',x_.f c cell goal=some ((oC w h most L c.db.next cell goal).1,(oC w h most L c.db.next cell goal).2.1,c')/\
 CS c' w h most (oC w h most L c.db.next cell goal).2.2/\c'.db.next=c.db.next+(if(oC w h most L c.db.next cell goal).2.1=0 then 1 else 0):=by
 unfold x_.f;rw[ak' hc cell goal c.db.next,aD]
 have HT:=hc.next
 unfold oC
 by_cases a: ¬bQ w h cell∨ ¬bQ w h goal
 ·simp only[ag a];rw[ag aX];exact⟨c,J,hc,by simp⟩
 ·simp only[ah a]
  by_cases b:pV L cell≠ -1
  ·simp only[ag b];rw[ag aX];exact⟨c,J,hc,by simp⟩
  ·simp only[ah b]
   by_cases d:most<=(L.length:Int)
   ·simp only[ag d];rw[ag aX];exact⟨c,J,hc,by simp⟩
   ·simp only[ah d]
    by_cases e:cell=goal
    ·simp only[ag e];rw[ag aX];exact⟨c,J,hc,by simp⟩
    ·simp only[ah e];rw[ah aX];obtain⟨u',a1,a2,a3⟩:=(aah hc.us hn cell goal).2 U;have e_:bQ w h cell:=jL λz=>a (.inl z);have HM:bQ w h goal:=jL λz=>a (.inr z);have hw:pV L cell= -1:=jL λz=>b z
     have gY:=(abX hc).1 hw;have HJ:sX (w*h) c.floor cell:=by
      refine⟨e_.2.1,e_.2.2,jL λz=>?_⟩
      obtain⟨x,hx,q⟩:=hc.fl.only cell e_.2.1 e_.2.2 z;exact gY x hx q
     have Pa:=hc.fl.fg;have jD:=hc.us.fg;have ep:EW (w*h) c.floor cell c.db.next=(true,iO c.floor cell (c.db.next+1) 1):=by
      unfold EW;rw[ag ⟨HJ,by omega,by omega⟩]
     rw[a1,aD,XG hc.fl.fl U,ep];refine⟨_,J,⟨hc.w_,hc.h_,hc.m_,hc.may,a3,?_,λy hy=>?_,by simp;omega⟩,by simp[a2]⟩
     ·exact adk (x:=⟨c.db.next,cell,goal⟩) hc.fl e_.2.1 e_.2.2 gY (by simp only;omega) (by simp only;omega)
     ·rcases List.mem_append.1 hy with q |q
      ·exact hc.ok y q
      ·simp at q;subst q;exact⟨e_,HM,e⟩
def xW (L:List aI) (id:Int):Int×List aI:=if Cd L id=true then(0,mO L id) else(12,L)
theorem ab' (hc:CS c w h most L) (id:Int): ∃c',xY.f c id=some ((xW L id).1,c')/\CS c' w h most (xW L id).2/\c'.db.next=c.db.next:=by
 unfold xY.f xW Cd;rw[E0 hc.us,aD];unfold AP
 cases hf:pe L id with
 |none=>
  exact⟨c,J,by simpa using hc,J⟩
 |some x=>
  obtain⟨h1,h2⟩:=Cc hf;obtain⟨c',e1,e2,e3⟩:=NK hc h1;simp only[mV,gj,if_false,e1,aD];rw[h2] at e2;exact⟨c',J,by simpa using e2,e3⟩
def xX (w h:Int) (L:List aI) (id goal:Int):Int×List aI:=
 match pe L id with
 |none=>(12,L)
 |some x=>if ¬bQ w h goal then(7,L) else if x.Cell=goal then(13,mO L id) else(0,hU L id (λx=>⟨x.Id,x.Cell,goal⟩))
theorem acy (hc:CS c w h most L) (id goal:Int): ∃c',xZ.f c id goal=some ((xX w h L id goal).1,c')/\CS c' w h most (xX w h L id goal).2/\c'.db.next=c.db.next:=by
 unfold xZ.f xX;rw[E0 hc.us,aD];unfold AP
 cases hf:pe L id with
 |none=>
  exact⟨c,J,by simpa using hc,J⟩
 |some x=>
  obtain⟨h1,h2⟩:=Cc hf;simp only[mV,gj,if_false,NM hc,aD,ala hc]
  by_cases q:bQ w h goal
  ·simp only[decide_eq_true q,mV,gj,if_false]
   by_cases g:x.Cell=goal
   ·obtain⟨c',e1,e2,e3⟩:=NK hc h1;rw[h2] at e2;simp only[ag g,e1,aD,ah (λz: ¬bQ w h goal=>z q)];exact⟨c',J,e2,e3⟩
   ·obtain⟨u',e1,e2,e3⟩:=aal hc.us id goal;simp only[ah g,e1,aD,ah (λz: ¬bQ w h goal=>z q)];refine⟨_,J,⟨hc.w_,hc.h_,hc.m_,hc.may,e3,⟨hc.fl.fl,by simp[hU,hc.fl.fg],λy hy=>?_,λd d0 d1 hd=>?_⟩,λy hy=>?_,by simpa[hU] using hc.kG⟩,e2⟩
    ·unfold hU at hy;obtain⟨z,hz,rfl⟩:=List.mem_map.1 hy;have:=hc.fl.at_ z hz;split<;>exact this
    ·obtain⟨z,hz,e⟩:=hc.fl.only d d0 d1 hd;refine⟨if z.Id=id then⟨z.Id,z.Cell,goal⟩ else z,List.mem_map.2 ⟨z,hz,J⟩,?_⟩
     split<;>exact e
    ·unfold hU at hy;obtain⟨z,hz,rfl⟩:=List.mem_map.1 hy;have Wk:=hc.ok z hz;split
     ·rename_i y;have:z=x:=Dp hc.us.up hz h1 (y.trans h2.symm);exact⟨Wk.1,q,by rw[this];exact g⟩
     ·exact Wk
  ·simp only[decide_eq_false q,vZ,if_true,ag q];exact⟨c,J,hc,J⟩
variable {c : eK} {w h most : Int} {L : List aI}
theorem CS.WY (hc:CS c w h most L):iL w h L:=by
 refine⟨hc.may,λj j0 j1=>?_⟩
 have hm:=dR j0 j1;obtain⟨a,b,d⟩:=hc.ok _ hm;refine⟨?_,a,b,λq q0 q1 e=>?_⟩
 ·split
  ·have:=(hc.us.Ig hm).1;omega
  ·have:=vD hc.us.up (i:=j-1) (j:=j) U U bf;rwa[Ax U U,Ax U U] at this
 ·have h1:=hc.inj (dR q0 U) hm e;have:=vD hc.us.up (i:=q) (j:=j) q0 q1 bf;rw[Ax U U,Ax U U,h1] at this;omega
theorem akK {k:Int} {v:aI} {p:aI->Bool} (hv:p v=false) (l:List aI):(hU l k (λ_=>v)).filter p=mO (l.filter p) k:=by
 unfold hU mO
 induction l with
 |nil=>rfl
 |cons x r ih=>
  rw[List.map_cons]
  by_cases e:x.Id=k
  ·rw[ag e,xO,hv,ih]
   by_cases q:p x=true
   ·simp[q,e]
   ·simp[q]
  ·rw[ah e,xO,ih]
   by_cases q:p x=true
   ·rw[ag q,xO,ag q,xO,ag (by simpa using e)]
   ·rw[ah q,xO,ah q]
theorem akL {k:Int} {v:aI} {p:aI->Bool} (hv:p v=true) (l:List aI) (hl: ∀x∈l,x.Id=k->p x=true):(hU l k (λ_=>v)).filter p=hU (l.filter p) k (λ_=>v):=by
 unfold hU
 induction l with
 |nil=>rfl
 |cons x r ih=>
  have Wp:=ih (λy hy=>hl y (by simp[hy]))
  rw[List.map_cons]
  by_cases e:x.Id=k
  ·rw[ag e,xO,ag hv,Wp,xO,ag (hl x aX e),List.map_cons,ag e]
  ·rw[ah e,xO,Wp]
   by_cases q:p x=true
   ·rw[ag q,xO,ag q,List.map_cons,ah e]
   ·rw[ah q,xO,ah q]
abbrev Ln (w h:Int) (L:List aI) (aO:List Int) (n:Nat):List aI:=(dV w h L aO n).1.filter (λx=>decide (0<=x.Cell))
theorem ajZ {l:List aI} {n:Nat} (hn:n<l.length) (nj: ∀i j:Int,0<=i->i<l.length->0<=j->j<l.length->i≠j->(rd l i).Id≠(rd l j).Id) (v:aI):l.set n v=hU l (rd l (n:Int)).Id (λ_=>v):=by
 refine xe (by simp[hU]) (λi i0 i1=>?_)
 rw[mo] at i1;unfold hU;rw[Ax i0 i1];have:=lR (L:=l) (i:=(n:Int)) (c:=i) (v:=v) U U i0;rw[show((n:Int)).toNat=n by simp] at this
 rw[this]
 by_cases e:i=n
 ·rw[ag e,e,ag J]
 ·rw[ah e,ah (nj i n i0 i1 U U e)]
theorem ahc (hm:iL w h L) (aO:List Int) {n:Nat} (hn:n<L.length):Ln w h L aO (n+1)=
 if uy w h L aO n then(if me w h L aO n=(rd L (n:Int)).Goal then mO (Ln w h L aO n) (rd L (n:Int)).Id else hU (Ln w h L aO n) (rd L (n:Int)).Id (λ_=>⟨(rd L (n:Int)).Id,me w h L aO n,(rd L (n:Int)).Goal⟩)) else Ln w h L aO n:=by
 have hi:=zP hm aO n U;have hl:=hi.len
 show(lJ w h (dV w h L aO n) n (rd L (n:Int)) (rd aO (n:Int))).1.filter _=_
 unfold lJ;have nj: ∀i j:Int,0<=i->i<(dV w h L aO n).1.length->0<=j->j<(dV w h L aO n).1.length->i≠j->(rd (dV w h L aO n).1 i).Id≠(rd (dV w h L aO n).1 j).Id:=by
  intro i j i0 i1 j0 j1 tj;rw[(hi.same i i0 U).1,(hi.same j j0 U).1];rcases Int.lt_or_gt_of_ne tj with q |q
  ·have:=hm.Dq i0 q U;omega
  ·have:=hm.Dq j0 q U;omega
 by_cases z:uy w h L aO n
 ·rw[ag z,ag z];simp only;rw[show((n:Int)).toNat=n by simp,ajZ U nj,hi.rest n U U]
  by_cases g:me w h L aO n=(rd L (n:Int)).Goal
  ·rw[ag g,ag g];exact akK aX _
  ·rw[ah g,ah g];have wU:0<=me w h L aO n:=z.1;refine akL (by simpa using wU) _ (λx hx e=>?_)
   obtain⟨j,j0,j1,rfl⟩:=ka hx;have:j=n:=jL λq=>by
    have:=nj j n j0 j1 U U q;rw[hi.rest n U U] at this;exact this e
   subst this;rw[hi.rest n U U];simpa using(hm.cell U U).2.1
 ·rw[ah z,ah z]
theorem adl {f:fT} {n:Int} (hf:FS f n L) (Ib:(L.map (·.Id)).Pairwise (· < ·)) {x:aI} (hx:x∈L) (i0:0<=x.Id) {to:Int} (t0:0<=to) (t1:to<n) (gY: ∀y∈L,y.Cell≠to):
 FS (iO (iO f x.Cell 0 (-1)) to (x.Id+1) 1) n (hU L x.Id (λ_=>⟨x.Id,to,x.Goal⟩)):=by
 obtain⟨h0,h1,h2⟩:=hf.at_ x hx;have hr:=hf.fl.2 x.Cell h0 h1;have VC:tR n (iO f x.Cell 0 (-1)):=Jc hf.fl h0 h1 U U;have PC: ∀d,0<=d->rd (iO (iO f x.Cell 0 (-1)) to (x.Id+1) 1).words d=if d=to then x.Id+1 else if d=x.Cell then 0 else rd f.words d:=by
  intro d d0;rw[BL VC t0 t1 d0,BL hf.fl h0 h1 d0]
 refine⟨Jc VC t0 t1 U U,by simp[iO,hf.fg,hU];omega,λy hy=>?_,λd d0 d1 hd=>?_⟩
 ·unfold hU at hy;obtain⟨z,hz,rfl⟩:=List.mem_map.1 hy;obtain⟨a,b,e⟩:=hf.at_ z hz
  by_cases q:z.Id=x.Id
  ·rw[ag q];exact⟨t0,t1,by rw[PC to t0,ag J]⟩
  ·rw[ah q];refine⟨a,b,?_⟩;rw[PC _ a,ah (gY z hz),ah]
   ·exact e
   ·intro y;rw[y,h2] at e;omega
 ·rw[PC d d0] at hd
  by_cases q:d=to
  ·refine⟨⟨x.Id,to,x.Goal⟩,List.mem_map.2 ⟨x,hx,by rw[ag J]⟩,q.symm⟩
  ·rw[ah q] at hd
   by_cases z:d=x.Cell
   ·rw[ag z] at hd;exact absurd J hd
   ·rw[ah z] at hd;obtain⟨y,hy,e⟩:=hf.only d d0 d1 hd;refine⟨y,List.mem_map.2 ⟨y,hy,?_⟩,e⟩;rw[ah (λk=>z (by rw[<-e,Dp Ib hy hx k]))]
theorem akF (hm:iL w h L) (hb:L.length<=1000000) {aO:List Int} (nx:Int): ∀(m k n:Nat) (c:eK),n+m=L.length->m<k->CS c w h most (Ln w h L aO n)->c.db.next=nx->
 ∃c',oG.l0 k ((il w h L aO).1,(il w h L aO).2.1,(il w h L aO).2.2,0) c ((dV w h L aO n).2.1.length:Int)=
  some ((il w h L aO).2.1,(il w h L aO).2.2,0,c')/\CS c' w h most (il w h L aO).1/\c'.db.next=nx:=by
 intro m
 induction m with
 |zero=>
  intro k n c hn hk hc hx;obtain⟨k,rfl⟩:=bl hk;have:n=L.length:=U;subst this;refine⟨c,?_,hc,hx⟩;rw[oG.l0,ah (by simp[il])]
 |succ m ih=>
  intro k n c hn hk hc hx;have aS:n<L.length:=U;have hi:=zP hm aO n U;obtain⟨m1,m2⟩:=ahB (aO:=aO) hm (n:=n) aS;have Lk:=P9 (w:=w) (h:=h) (l:=L) (aO:=aO) n;have Dg:=ahc hm aO aS;have Pt:=hi.LY
  by_cases z:uy w h L aO n
  ·obtain⟨k,rfl⟩:=bl hk;have hr:=m2 z;have alC:=(m1.2 z).1;rw[ag z] at Lk Dg;have aga:((dV w h L aO (n+1)).2.1.length:Int)=((dV w h L aO n).2.1.length:Int)+1:=by rw[Lk];simp
   have Bz:rd L (n:Int)∈Ln w h L aO n:=by
    rw[List.mem_filter];have:rd (dV w h L aO n).1 (n:Int)=rd L (n:Int):=hi.rest n U U;refine⟨by rw[<-this];exact dR U (by rw[hi.len];omega),?_⟩
    simpa using(hm.cell U U).2.1
   have af0:=Rc hc.us.up Bz;have HK:AP (Ln w h L aO n) (rd L (n:Int)).Id=(rd L (n:Int),true):=by unfold AP;rw[af0]
   have ac7:aI.mk (rd L (n:Int)).Id (rd L (n:Int)).Cell (rd L (n:Int)).Goal=rd L (n:Int):=rfl;rw[oG.l0,ag (by simp only;omega),ag (by simp only;omega)]
   simp only[hr,E0 hc.us,HK,aD];rw[wi U U,<-aga,ac7];have af9:=hc.us.Ig Bz
   by_cases g:me w h L aO n=(rd L (n:Int)).Goal
   ·rw[ag g] at Dg;obtain⟨c',e1,e2,e3⟩:=NK hc Bz;rw[ag (by simpa using g)]
    rw[e1,aD];exact ih k (n+1) c' U U (by rw[Dg];exact e2) U
   ·rw[ah g] at Dg;rw[ah (by simpa using g)]
    obtain⟨u',a1,a2,a3⟩:=ahA hc.us (rd L (n:Int)).Id (me w h L aO n);have wU:=T_ z.1;have gY: ∀y∈Ln w h L aO n,y.Cell≠me w h L aO n:=λy hy=>z.2 y (List.mem_filter.1 hy).1;have Pa:=hc.fl.fg;have alE:0<(Ln w h L aO n).length:=List.length_pos_iff.2 (List.ne_nil_of_mem Bz);have hle:(Ln w h L aO n).length<=L.length:=by
     have:=EE (λx:aI=>decide (0<=x.Cell)) (dV w h L aO n).1;rw[hi.len] at this;exact this
    have hw:nO (w*h) c.floor (rd L (n:Int)).Cell=(rd L (n:Int)).Id:=by rw[MN hc,GW hc Bz]
    have HJ:sX (w*h) c.floor (me w h L aO n):=by
     refine⟨wU.2.1,wU.2.2,jL λy=>?_⟩
     obtain⟨x,qR,e⟩:=hc.fl.only _ wU.2.1 wU.2.2 y;exact gY x qR e
    have es:Ku (w*h) c.floor (rd L (n:Int)).Cell (me w h L aO n)=(true,iO (iO c.floor (rd L (n:Int)).Cell 0 (-1)) (me w h L aO n) ((rd L (n:Int)).Id+1) 1):=by
     unfold Ku;rw[hw,ag ⟨by omega,HJ⟩]
    rw[aj1 hc.fl.fl U,es,a1];simp only[aD];have agi:hU (Ln w h L aO n) (rd L (n:Int)).Id (λx=>⟨x.Id,me w h L aO n,x.Goal⟩)=hU (Ln w h L aO n) (rd L (n:Int)).Id (λ_=>⟨(rd L (n:Int)).Id,me w h L aO n,(rd L (n:Int)).Goal⟩):=by
     unfold hU;refine List.map_congr_left λy hy=>?_
     by_cases q:y.Id=(rd L (n:Int)).Id
     ·rw[ag q,ag q,Dp hc.us.up hy Bz q]
     ·rw[ah q,ah q]
    rw[agi] at a3;refine ih k (n+1) ⟨c.w,c.h,c.most,u',iO (iO c.floor (rd L (n:Int)).Cell 0 (-1)) (me w h L aO n) ((rd L (n:Int)).Id+1) 1⟩ U U ?_ (by simp only;omega)
    rw[Dg];refine⟨hc.w_,hc.h_,hc.m_,hc.may,a3,adl hc.fl hc.us.up Bz af9.1 wU.2.1 wU.2.2 gY,λy hy=>?_,by simpa[hU] using hc.kG⟩
    unfold hU at hy;obtain⟨y',Fs,rfl⟩:=List.mem_map.1 hy;have wS:=hc.ok y' Fs;split
    ·exact⟨wU,(hc.ok _ Bz).2.1,g⟩
    ·exact wS
  ·rw[ah z,oq] at Lk;rw[ah z] at Dg;rw[<-Lk];exact ih k (n+1) c U U (by rw[Dg];exact hc) hx
theorem acG (hc:CS c w h most L) {aO:List Int} (hd:MR aO L.length): ∃c',oG.f c aO=some ((il w h L aO).2.1,(il w h L aO).2.2,0,c')/\CS c' w h most (il w h L aO).1/\c'.db.next=c.db.next:=by
 unfold oG.f;have hm:=hc.WY;have jD:=hc.us.fg;have HT:=hc.next
 rw[Ta hc,hc.w_,hc.h_];simp only[aD,go_ok hm U hd];rw[ah aX];have h0:Ln w h L aO 0=L:=by
  show L.filter _=L
  rw[List.filter_eq_self];intro x hx;simpa using(hc.ok x hx).1.2.1
 obtain⟨c',e1,e2,e3⟩:=akF (most:=most) hm U (aO:=aO) c.db.next L.length fuel 0 c U (by rw[cI];omega) (by rw[h0];exact hc) J
 exact⟨c',e1,e2,e3⟩
theorem W_ {w h most:Int} (hm:gS w h) (h1:1<=most) (h2:most<=65536): ∃c,wz.f w h most=some (some c)/\CS c w h most []/\c.db.next=0:=by
 obtain⟨r,r1,r2,r3⟩:=acn w h most;have:=r2.2 ⟨hm,h1,h2⟩;obtain⟨c,rfl⟩:=Option.isSome_iff_exists.1 this;exact⟨c,r1,(r3 c J).1,(r3 c J).2⟩
section
structure jz (S:bJ) (k most b:Int) (L:List aI):Prop where
 m_:S.most=most
 mb:1<=most/\most<=100
 nav: ∃ord,ji S.nav k b ord
 cr:(S.nav.core=none/\S.eT=none/\L=[])∨ ∃c C,S.nav.core=some c/\S.eT=some C/\CS C c.ay.m.W c.ay.m.H most L/\500000*C.db.next<=b/\ ∀u∈L,fh c.ay u.Cell≠255
 kp: ∀c,S.nav.core=some c->(c.jo.kept.isSome=true↔S.nav.gd.keys.aw≠[])
variable {S : bJ} {k most b : Int} {L : List aI}
theorem QE (c:Int):fX.f c=some (if c=0 then Er.nil else Er.num 148 c):=by
 unfold fX.f
 by_cases z:c=0<;>simp[z]
theorem Kx {n:cw} {ord:List Int} {c:d_} {goal s:Int} {r:gk×Er×cw} (h:Cp n k b ord c goal s r):r.2.2.gd.keys.aw≠[]/\ ∃c',r.2.2.core=some c'/\c'.ay=c.ay/\c'.jo.kept.isSome=true:=by
 obtain⟨R,l,c',r_,f1,f2,f3,f4,f5,f6,f7,f8,f9,f10,f11,f12,f13,f14,f15,f16,f17,f18⟩:=h.C2;refine⟨λz=>?_,c',f7,f8,by rw[f9];rfl⟩
 obtain⟨x,x1,_⟩:=f17.now;have:=(f16.pE.sl _ _).1 x1;rw[z] at this;simp at this;omega
theorem TE {ps:List (Int×Int)} {n n':cw} (h:u7 k ps n n'):(ps=[]/\n'=n)∨(ps≠[]/\n'.gd.keys.aw≠[]/\ ∃c',n'.core=some c'/\c'.jo.kept.isSome=true):=by
 cases h with
 |nil=>exact .inl ⟨J,J⟩
 |snoc h hn hc hg hs hf=>
  have:=Kx hf;obtain⟨a,c',b1,_,b3⟩:=this;exact .inr ⟨by simp,a,c',b1,b3⟩
def JJ (k:Int) (S:bJ) (L:List aI) (o:cR) (S':bJ) (L':List aI) (a:jn):Prop:=
 (o.Kind=1/\L'=[]/\a.fF=[]/\S'.nav.gd.keys.aw=[]/\gI S'.nav=gI S.nav/\ ∃c',S'.nav.core=some c'/\ ∀s:Int,bE c'.ay.m.W c'.ay.m.H s->(rd c'.iQ.parts s).version≠fU c'.ay s)∨
 (o.Kind=8/\L'=L/\a.fF=[]/\S'.nav.gd.keys.aw=[]/\gI S'.nav=gI S.nav/\((S.nav.core=none/\S'.nav.core=none)∨ ∃c,S.nav.core=some c/\S'.nav.core=some ⟨c.ay,c.iQ,⟨none,c.jo.count⟩⟩))∨
 (o.Kind=2/\L'=L/\a.fF=[]/\gI S'.nav=gI S.nav/\ ∃c,S.nav.core=some c/\bV c.ay.m o.A/\S'.nav.core=some ⟨nQ c.ay o.A o.B,c.iQ,c.jo⟩)∨
 ((o.Kind=3∨o.Kind=4∨o.Kind=5)/\a.fF=[]/\S'.nav=S.nav)∨
 (o.Kind=6/\L'=L/\a.fF=[]/\ ∃c b' ord f,S.nav.core=some c/\bV c.ay.m o.A/\bV c.ay.m o.B/\ji S.nav k b' ord/\Cp S.nav k b' ord c o.A (aQ c.ay.m.W c.ay.m.H o.B) (f,Er.nil,S'.nav)/\a.D=rd f.fi (cD c.ay.m.W c.ay.m.H o.B)/\a.cJ=rd f.cJ (cD c.ay.m.W c.ay.m.H o.B))∨
 (o.Kind=7/\ ∃c aO,S.nav.core=some c/\iL c.ay.m.W c.ay.m.H L/\u7 k ((km c.ay.m.W c.ay.m.H L).map Fv) S.nav S'.nav/\aO.length=L.length/\(∀j:Int,0<=j->j<L.length->Ey c.ay (rd L j) (rd aO j))/\L'=(il c.ay.m.W c.ay.m.H L aO).1/\a.fF=(il c.ay.m.W c.ay.m.H L aO).2.1/\a.iK=(il c.ay.m.W c.ay.m.H L aO).2.2)
def Ends (k most b:Int) (S:bJ) (L:List aI) (o:cR) (r:Er×bJ×jn):Prop:=
 ∃L',jz r.2.1 k most b L'/\((r.1=Er.nil/\r.2.2.Code=0/\JJ k S L o r.2.1 L' r.2.2)∨((r.1=Er.dW 0∨ ∃c,c≠0/\r.1=Er.num 148 c)/\r.2.1.nav=S.nav/\r.2.2.fF=[]/\o.Kind≠8))
theorem jz.mono {b':Int} (h:jz S k most b L) (hb:b<=b'):jz S k most b' L:=by
 obtain⟨ord,hn⟩:=h.nav;refine⟨h.m_,h.mb,⟨ord,hn.mono hb⟩,?_,h.kp⟩;rcases h.cr with z |⟨c,C,h1,h2,h3,h4,h5⟩
 ·exact .inl z
 ·exact .inr ⟨c,C,h1,h2,h3,by omega,h5⟩
abbrev a0:jn:=jn.mk 0 0 5 (-1) [] [] (gD.mk 0 0 0 0 0 0)
theorem Ja {l:gu} {ord:List Int} (h:sK l k ord):ord=[]↔l.aw=[]:=by
 constructor
 ·intro z;rw[<-List.length_eq_zero_iff];apply jL;intro y;have:=(h.mem 0).2 U;rw[z] at this;simp at this
 ·intro z;refine List.eq_nil_iff_forall_not_mem.2 λc hc=>?_
  have:=(h.mem c).1 hc;rw[z] at this;simp at this;omega
theorem YG (h:jz S k most b L) (hb:0<=b/\b<=60000000000) {o:cR} (ho:qB o) (hk:o.Kind=1):
 Ok (vL.f S o.Map) (λr=>Ends k most (b+1) S L o (r.1,r.2,a0)):=by
 obtain⟨l1,l2,l3,l4,l5⟩:=ho.ld hk;obtain⟨ord,hn⟩:=h.nav;unfold vL.f;refine(aaj l1 l3).bind λv hv=>?_
 rcases hv with q |⟨q1,q2,q3,q4,q5⟩
 ·refine Ok.pos (by rcases q with q |q<;>simp[q]) (Ok.pure ⟨L,h.mono U,.inr ⟨.inr ⟨6,by omega,rfl⟩,rfl,rfl,by omega⟩⟩)
 ·refine Ok.neg (by simp[q1]) ?_
  have hm:=q2.1;have HQ:MY v.1:=⟨q2,q3,by
   have:v.1.W*v.1.H<=40*40:=kc U U U U;omega⟩
  obtain⟨n',c',e,e1,e2,e3,e4,e5,e6,e7⟩:=Xc hn ⟨hb.1,by omega⟩ HQ
  obtain⟨C,eC,hC,hC0⟩:=W_ (w:=v.1.W) (h:=v.1.H) (most:=most) hm h.mb.1 (by have:=h.mb;omega)
  refine Ok.eq e (Ok.pos J ?_);rw[h.m_];refine Ok.eq (v:=some C) eC ?_;refine Ok.opt (Ok.eq J (Ok.pure ⟨[],⟨J,h.mb,⟨[],e2⟩,.inr ⟨c',C,e1,J,by rw[e3];exact hC,by omega,by simp⟩,λc hc=>?_⟩,.inl ⟨J,J,.inl ⟨hk,J,J,(Ja e2.pE).1 J,e5,c',e1,by rw[e3];exact e6⟩⟩⟩))
  simp only at hc⊢;rw[e1] at hc;simp only[Option.some.injEq] at hc;subst hc;have:=(Ja e2.pE).1 J;rw[e4,this];simp
theorem ajP (h:jz S k most b L) (hb:0<=b/\b<=60000000000) {o:cR} (ho:qB o) (hk:o.Kind=2) {c:d_} {C:eK} (h1:S.nav.core=some c) (h2:S.eT=some C) (h3:CS C c.ay.m.W c.ay.m.H most L) (h4:500000*C.db.next<=b) (h5: ∀u∈L,fh c.ay u.Cell≠255) (hA:bV c.ay.m o.A):
 Ok (yY.f S o.A o.B) (λr=>Ends k most (b+1) S L o (r.1,r.2,a0)):=by
 have hB:=ho.b2 hk;obtain⟨ord,hn⟩:=h.nav;unfold yY.f;refine Ok.ite (λq=>Ok.pure ⟨L,h.mono U,.inr ⟨.inr ⟨8,by omega,J⟩,J,J,by omega⟩⟩) λq=>?_
 have q: ¬(o.B<1∨o.B>255):=by simpa using q
 rw[h2];have e:dA (some C) none (λx3=>if(o.B==255)=true then((Bl.f x3 o.A).bind λv4=>some (decide (v4≥0))) else(some false))=some (decide (o.B=255/\pV L o.A≥0)):=by
  show(if(o.B==255)=true then _ else _)=_
  by_cases z:o.B=255
  ·rw[ag (by simpa using z),acH h3];simp[z]
  ·rw[ah (by simpa using z)];simp[z]
 refine Ok.eq e (Ok.ite (λz=>Ok.pure ⟨L,h.mono U,.inr ⟨.inr ⟨10,by omega,J⟩,J,J,by omega⟩⟩) λz=>?_)
 have z: ¬(o.B=255/\pV L o.A≥0):=by simpa using z
 obtain⟨n',e1,e2,e3,e4,e5,e6⟩:=ahR hn ⟨hb.1,by omega⟩ h1 hA U hB
 have hG:=(hn.core c h1).1.gs;refine Ok.eq e1 (Ok.eq J (Ok.pure ⟨L,⟨h.m_,h.mb,⟨ord,e5⟩,.inr ⟨_,C,e2,J,h3,by omega,λu hu=>?_⟩,λc' jr=>?_⟩,.inl ⟨J,J,.inr (.inr (.inl ⟨hk,J,J,e6,c,h1,hA,e2⟩))⟩⟩))
 ·have kJ:=(h3.ok u hu).1;have e_:bV c.ay.m u.Cell:=kJ.2;have hold:=h5 u hu;have e: ∀(x:Int),bV c.ay.m x->fh (nQ c.ay o.A o.B) x=if x=o.A then o.B else fh c.ay x:=λx hx=>by
   have e0:fh (nQ c.ay o.A o.B) x=rd (nQ c.ay o.A o.B).m.C x:=by unfold fh;exact ag hx
   rw[e0,PW hG hA hx.1];split
   ·rfl
   ·unfold fh;rw[ag hx]
  simp only;rw[e _ e_];split
  ·rename_i w;intro y;refine z ⟨y,?_⟩;rw[<-w,GW h3 hu];exact(US.Ig h3.us hu).1
  ·exact hold
 ·simp only at jr⊢;rw[e2] at jr;simp only[Option.some.injEq] at jr;subst jr;simp only;rw[e3];exact h.kp c h1
theorem akk (h:jz S k most b L) (hb:0<=b/\b<=60000000000) {o:cR} (hk:o.Kind=3) {c:d_} {C:eK} (h1:S.nav.core=some c) (h2:S.eT=some C) (h3:CS C c.ay.m.W c.ay.m.H most L) (h4:500000*C.db.next<=b) (h5: ∀u∈L,fh c.ay u.Cell≠255):
 Ok (yZ.f S o.A o.B) (λr=> ∀a:jn,a.fF=[]->a.Code=0->Ends k most (b+500000) S L o (r.2.1,r.2.2,a)):=by
 obtain⟨ord,hn⟩:=h.nav;unfold yZ.f;refine Ok.eq (L3 hn h1 _) (Ok.ite (λq=>Ok.pure λa ha _=>⟨L,h.mono U,.inr ⟨.inr ⟨9,by omega,J⟩,J,ha,by omega⟩⟩) λq=>?_)
 have q:fh c.ay o.A≠255:=by simpa using q
 rw[h2];obtain⟨C',e1,e2,e3⟩:=acF h3 U o.A o.B;refine Ok.opt (Ok.eq e1 (Ok.eq (QE _) (Ok.pure λa ha HD=>⟨(oC c.ay.m.W c.ay.m.H most L C.db.next o.A o.B).2.2,⟨h.m_,h.mb,⟨ord,hn.mono U⟩,.inr ⟨c,C',h1,J,e2,?_,λu hu=>?_⟩,h.kp⟩,?_⟩)))
 ·have:C'.db.next<=C.db.next+1:=by rw[e3];split<;>omega
  omega
 ·unfold oC at hu
  repeat' split at hu
  all_goals first
   |exact h5 u hu
   |(rcases List.mem_append.1 hu with z |z
     ·exact h5 u z
     ·simp only[nK,tZ,or_false] at z;rw[z];exact q)
 ·by_cases z:(oC c.ay.m.W c.ay.m.H most L C.db.next o.A o.B).2.1=0
  ·rw[ag z];exact .inl ⟨J,HD,.inr (.inr (.inr (.inl ⟨.inl hk,ha,J⟩)))⟩
  ·rw[ah z];exact .inr ⟨.inr ⟨_,z,J⟩,J,ha,by omega⟩
theorem aki (h:jz S k most b L) (hb:0<=b/\b<=60000000000) {o:cR} (hk:o.Kind=6) {c:d_} {C:eK} (h1:S.nav.core=some c) (h2:S.eT=some C) (h3:CS C c.ay.m.W c.ay.m.H most L) (h4:500000*C.db.next<=b) (h5: ∀u∈L,fh c.ay u.Cell≠255):
 Ok (vM.f S a0 o.A o.B) (λr=>Ends k most (b+5000) S L o (r.1,r.2.1,r.2.2)):=by
 obtain⟨ord,hn⟩:=h.nav;unfold vM.f;refine(Xd hn ⟨hb.1,by omega⟩ h1 o.A o.B).bind λv hv=>?_
 rcases hv with⟨a1,a2,a3,f,a4,a5,a6⟩ |⟨a1,a2,a3⟩
 ·rw[a3];obtain⟨g1,c',g2,g3,g4⟩:=Kx a4;obtain⟨R,l,c2,r_,f1,f2,f3,f4,f5,f6,f7,f8,f9,f10,f11,f12,f13,f14,f15,f16,f17,f18⟩:=a4.C2;refine Ok.pos J (Ok.eq J (Ok.pure ⟨L,⟨h.m_,h.mb,⟨r_,f16⟩,.inr ⟨c',C,g2,h2,by rw[g3];exact h3,by omega,by rw[g3];exact h5⟩,λc3 wK=>?_⟩,.inl ⟨J,J,.inr (.inr (.inr (.inr (.inl ⟨hk,J,J,c,b,ord,f,h1,a1,a2,hn,a4,a5,a6⟩))))⟩⟩))
  simp only at g2 wK⊢;rw[g2] at wK;simp only[Option.some.injEq] at wK;subst wK;exact⟨λ_=>g1,λ_=>g4⟩
 ·rw[a2,a3];exact Ok.neg aX (Ok.eq J (Ok.pure ⟨L,h.mono U,.inr ⟨.inr ⟨7,by omega,J⟩,J,J,by omega⟩⟩))
end
section
variable {S : bJ} {k most b : Int} {L : List aI}
theorem aai {w h:Int} {aO:List Int} (hm:iL w h L): ∀n:Nat,n<=L.length-> ∀u∈qM (dV w h L aO n) n,∃j:Int,0<=j/\j<n/\(u.Cell=(rd L j).Cell∨(0<=rd aO j/\rd aO j<=3/\u.Cell=bB w h (rd L j).Cell (rd aO j)/\0<=u.Cell)):=by
 intro n
 induction n with
 |zero=>intro _ u hu;simp[qM] at hu
 |succ n ih=>
  intro hn u hu;rw[Nh hm U] at hu;rcases List.mem_append.1 hu with z |z
  ·obtain⟨j,j0,j1,q⟩:=ih U u z;exact⟨j,j0,by omega,q⟩
  ·split at z
   ·rename_i y;simp only[nK,tZ,or_false] at z;subst z;refine⟨n,by omega,by omega,?_⟩
    simp only;unfold FA at y⊢;split at y
    ·rename_i c;rw[ag c];split at y
     ·omega
     ·rename_i g;rw[ah g];refine .inr ?_;have hc:=c.1;unfold dM at hc;have hd:0<=rd aO (n:Int)/\rd aO (n:Int)<=3:=jL λq=>by rw[ah q] at hc;omega
      refine⟨hd.1,hd.2,?_,y⟩
      show dM w h (rd L (n:Int)) (rd aO (n:Int))=_
      unfold dM;rw[ag hd]
    ·rename_i c;rw[ah c];exact .inl J
   ·simp at z
theorem akw (h:jz S k most b L) (hb:0<=b/\b<=60000000000) {o:cR} (hk:o.Kind=7) {c:d_} {C:eK} (h1:S.nav.core=some c) (h2:S.eT=some C) (h3:CS C c.ay.m.W c.ay.m.H most L) (h4:500000*C.db.next<=b) (h5: ∀u∈L,fh c.ay u.Cell≠255):
 Ok (xz.f S a0) (λr=> ∃L',jz r.2.1 k most (b+500000) L'/\r.1=Er.nil/\r.2.2.Code=0/\JJ k S L o r.2.1 L' r.2.2):=by
 obtain⟨ord,hn⟩:=h.nav;have hG:=(hn.core c h1).1.gs;have hmb:=h.mb;have Ff:=h3.kG;have hm:=h3.WY;have nT:(km c.ay.m.W c.ay.m.H L).length<=L.length:=by
  have:=LP _ (Qu hm).some_;rw[Md] at this;exact this
 unfold xz.f;rw[h2];refine Ok.opt (Ok.eq (Ta h3) ((acK hn ⟨hb.1,by omega⟩ h1 hm U (λu hu=>(h3.ok u hu).2.1.2)).bind λr hr=>?_))
 obtain⟨r1,qh,r_,r2,r3,⟨c',r4,Ye⟩,r5,r6,r7⟩:=hr;rw[r1,r2];refine Ok.neg (by simp[Er.isNil]) ?_
 simp only[h2];have afY:MR r.1 L.length:=by
  refine⟨r6,λd hd=>?_⟩
  obtain⟨j,j0,j1,rfl⟩:=ka hd;obtain⟨R,l,f,d1,d2,d3,d4,d5,d6⟩:=r7 j j0 U;have hc:=(h3.ok _ (dR j0 U)).1;have mH:=tG hG hc.2;rw[d6,d5.dir _ mH.1 mH.2.1];exact acS _
 obtain⟨C',e1,e2,e3⟩:=acG h3 afY;refine Ok.opt (Ok.eq e1 (Ok.eq J (Ok.pure ⟨(il c.ay.m.W c.ay.m.H L r.1).1,⟨h.m_,h.mb,⟨r_,r3.mono U⟩,.inr ⟨c',C',r4,J,by rw[Ye];exact e2,by omega,λu hu=>?_⟩,λc3 wK=>?_⟩,J,J,.inr (.inr (.inr (.inr (.inr ⟨hk,c,r.1,h1,hm,r5,r6,r7,J,J,J⟩))))⟩)))
 ·rw[Ye];have kJ:u∈qM (dV c.ay.m.W c.ay.m.H L r.1 L.length) L.length:=by
   unfold il at hu;unfold qM;rw[Cx (by have:=(zP hm r.1 L.length (l7 _)).len;omega)]
   exact hu
  obtain⟨j,j0,j1,q⟩:=aai hm L.length (l7 _) u kJ;have hj:=dR j0 j1;rcases q with q |⟨q0,q3,q4,q5⟩
  ·rw[q];exact h5 _ hj
  ·obtain⟨R,l,f,d1,d2,d3,d4,d5,d6⟩:=r7 j j0 j1;have:=acJ hG d3.1 (h3.ok _ hj).1.2 d4 d5 d6 q0 q3;rw[q4];exact this.2
 ·simp only at wK⊢;rcases TE r5 with⟨_,z⟩ |⟨_,z1,c4,z2,z3⟩
  ·rw[z] at wK⊢;exact h.kp c3 wK
  ·rw[z2] at wK;simp only[Option.some.injEq] at wK;subst wK;exact⟨λ_=>z1,λ_=>z3⟩
theorem akv (h:jz S k most b L) (hb:0<=b/\b<=60000000000) {o:cR} (hk:o.Kind=7) {c:d_} {C:eK} (h1:S.nav.core=some c) (h2:S.eT=some C) (h3:CS C c.ay.m.W c.ay.m.H most L) (h4:500000*C.db.next<=b) (h5: ∀u∈L,fh c.ay u.Cell≠255):
 Ok (xz.f S a0) (λr=>Ends k most (b+500000) S L o (r.1,r.2.1,r.2.2)):=
 (akw h hb hk h1 h2 h3 h4 h5).mono λr ⟨L',e1,e2⟩=>⟨L',e1,.inl e2⟩
theorem ajC {ord:List Int} {c:d_} (hn:ji S.nav k b ord) (h1:S.nav.core=some c) (o:cR):
 Ok (rk.f S o) (λe=>(e=Er.nil/\(o.Kind=3∨o.Kind=2->bV c.ay.m o.A))∨(e=Er.num 148 7/\o.Kind≠8)):=by
 have hG:=(hn.core c h1).1.gs;have bZ: ∀x,fh c.ay x≠0->bV c.ay.m x:=λx hx=>jL λz=>hx (by unfold fh;rw[ah z])
 unfold rk.f;refine Ok.ite (λq=>Ok.eq (L3 hn h1 _) (Ok.ite (λ_=>Ok.pure (.inr ⟨J,by simp at q;omega⟩)) λ_=>Ok.eq (L3 hn h1 _) (Ok.ite (λ_=>Ok.pure (.inr ⟨J,by simp at q;omega⟩)) λz=>Ok.pure (.inl ⟨J,λ_=>bZ _ (by simpa using z)⟩)))) λq=>Ok.ite (λq=>Ok.eq (L3 hn h1 _) (Ok.ite (λ_=>Ok.pure (.inr ⟨J,by simp at q;omega⟩)) λz=>Ok.pure (.inl ⟨J,λ_=>bZ _ (by simpa using z)⟩))) λq'=>Ok.pure (.inl ⟨J,λz=>?_⟩)
 simp at q q';omega
theorem Ends.mono {o:cR} {r:Er×bJ×jn} {b':Int} (h:Ends k most b S L o r) (hb:b<=b'):Ends k most b' S L o r:=by
 obtain⟨L',h1,h2⟩:=h;exact⟨L',h1.mono hb,h2⟩
theorem ajK (h:jz S k most b L) (hb:0<=b/\b<=60000000000) {o:cR} (ho:qB o):Ok (tL.f S o a0) (Ends k most (b+500000) S L o):=by
 obtain⟨ord,hn⟩:=h.nav;unfold tL.f;have no: ∀e:Er,(e=Er.dW 0∨ ∃c,c≠0/\e=Er.num 148 c)->o.Kind≠8->Ends k most (b+500000) S L o (e,S,a0):=λe he h8=>⟨L,h.mono U,.inr ⟨he,J,J,h8⟩⟩
 by_cases Pl:o.Kind=0
 ·rw[ag (by simpa using Pl)]
  exact Ok.eq J (Ok.pos J (Ok.pure (no _ (.inl J) U)))
 rw[ah (by simpa using Pl),Qn ho Pl]
 refine Ok.eq J (Ok.neg aX ?_);have hkr:=ho.k;have fin: ∀(r:Er×bJ×jn),Ends k most (b+500000) S L o r->Ok (some (r.1,r.2.1,jn.mk r.2.2.Code r.2.2.D r.2.2.cJ r.2.2.Id r.2.2.fF r.2.2.iK (gD.mk r.2.2.Stats.bK r.2.2.Stats.bL r.2.2.Stats.bH r.2.2.Stats.bG r.2.2.Stats.bR r.2.2.Stats.bM))) (Ends k most (b+500000) S L o):=λr hr=>Ok.pure hr
 rcases h.cr with⟨n1,n2,n3⟩ |⟨c,C,h1,h2,h3,h4,h5⟩
 ·rw[n2];have e:(dA (none:Option eK) (if(o.Kind !=1)=true then(some (o.Kind !=8)) else(some false)) (λx6=>some false))=some (decide (o.Kind≠1/\o.Kind≠8)):=by
   show(if(o.Kind !=1)=true then _ else _)=_
   by_cases z:o.Kind=1
   ·rw[ah (by simp[z])];simp[z]
   ·rw[ag (by simpa using z)];simp only[Option.some.injEq];rw[qC];simp[z]
  refine Ok.eq e (Ok.ite (λw=>Ok.pure (no _ (.inr ⟨4,by omega,J⟩) (of_decide_eq_true w).2)) λq=>?_)
  have q:o.Kind=1∨o.Kind=8:=by have:=of_decide_eq_false (by simpa using q:decide (o.Kind≠1/\o.Kind≠8)=false);omega
  have ec:rk.f S o=some Er.nil:=by
   unfold rk.f;rw[ah bf,ah bf]
  refine Ok.eq ec (Ok.neg (by simp[Er.isNil]) ?_)
  rcases q with q |q
  ·rw[ag (by simpa using q)]
   obtain⟨r,er,hr⟩:=YG h ⟨hb.1,by omega⟩ ho q
   rw[er];exact Ok.eq J (fin (r.1,r.2,a0) (hr.mono U))
  ·rw[ah (by simp[q]),ag (by simpa using q)]
   obtain⟨n',e1,e2,e3,e4,e5,e6⟩:=Xb hn;have e6:n'.core=none:=by
    rcases e6 with z |⟨c,z,_⟩
    ·exact z.2
    ·rw[n1] at z;simp at z
   rw[e1];refine Ok.eq J (fin (Er.nil,⟨S.most,n',none⟩,a0) ⟨L,⟨h.m_,h.mb,⟨[],e2.mono U⟩,.inl ⟨e6,J,n3⟩,λc hc=>by simp only at hc;rw[e6] at hc;simp at hc⟩,.inl ⟨J,J,.inr (.inl ⟨q,J,J,(Ja e2.pE).1 J,e3,.inl ⟨n1,e6⟩⟩)⟩⟩)
 ·rw[h2];refine Ok.eq (v:=false) J (Ok.neg aX ?_);refine(ajC hn h1 o).bind λe he=>?_
  rcases he with⟨rfl,bZ⟩ |⟨rfl,h8⟩
  rotate_left
  ·exact Ok.pos J (Ok.pure (no _ (.inr ⟨7,by omega,J⟩) h8))
  refine Ok.neg (by simp[Er.isNil]) ?_
  by_cases k1:o.Kind=1
  ·rw[ag (by simpa using k1)]
   obtain⟨r,er,hr⟩:=YG h ⟨hb.1,by omega⟩ ho k1
   rw[er];exact Ok.eq J (fin (r.1,r.2,a0) (hr.mono U))
  rw[ah (by simpa using k1)]
  by_cases k8:o.Kind=8
  ·rw[ag (by simpa using k8)]
   obtain⟨n',e1,e2,e3,e4,e5,e6⟩:=Xb hn;rcases e6 with z |⟨c2,z1,z2⟩
   ·rw[h1] at z;simp at z
   rw[h1] at z1;simp only[Option.some.injEq] at z1;subst z1;rw[e1];refine Ok.eq J (fin (Er.nil,⟨S.most,n',some C⟩,a0) ⟨L,⟨h.m_,h.mb,⟨[],e2.mono U⟩,.inr ⟨_,C,z2,J,h3,by omega,h5⟩,λc' jr=>?_⟩,.inl ⟨J,J,.inr (.inl ⟨k8,J,J,(Ja e2.pE).1 J,e3,.inr ⟨c,h1,z2⟩⟩)⟩⟩)
   simp only at jr⊢;rw[z2] at jr;simp only[Option.some.injEq] at jr;subst jr;rw[(Ja e2.pE).1 J];simp
  rw[ah (by simpa using k8)]
  by_cases k2:o.Kind=2
  ·rw[ag (by simpa using k2)]
   obtain⟨r,er,hr⟩:=ajP h ⟨hb.1,by omega⟩ ho k2 h1 h2 h3 h4 h5 (bZ (.inr k2))
   rw[er];exact Ok.eq J (fin (r.1,r.2,a0) (hr.mono U))
  rw[ah (by simpa using k2)]
  by_cases k3:o.Kind=3
  ·rw[ag (by simpa using k3)]
   obtain⟨r,er,hr⟩:=akk h hb k3 h1 h2 h3 h4 h5;rw[er];exact Ok.eq J (fin (r.2.1,r.2.2,⟨0,0,5,r.1,[],[],⟨0,0,0,0,0,0⟩⟩) ((hr _ J J).mono U))
  rw[ah (by simpa using k3)]
  by_cases k4:o.Kind=4
  ·rw[ag (by simpa using k4)]
   obtain⟨C',e1,e2,e3⟩:=acy h3 o.A o.B;have hS:jz ⟨S.most,S.nav,some C'⟩ k most (b+500000) (xX c.ay.m.W c.ay.m.H L o.A o.B).2:=⟨h.m_,h.mb,⟨ord,hn.mono U⟩,.inr ⟨c,C',h1,J,e2,by omega,λu hu=>by
    unfold xX at hu
    repeat' split at hu
    all_goals first
     |exact h5 u hu
     |exact h5 u (NZ hu)
     |(unfold hU at hu
       obtain⟨x,hx,rfl⟩:=List.mem_map.1 hu;split
       ·exact h5 x hx
       ·exact h5 x hx)⟩,h.kp⟩
   refine Ok.bind (P:=λr=>r=((if(xX c.ay.m.W c.ay.m.H L o.A o.B).1=0 then Er.nil else Er.num 148 (xX c.ay.m.W c.ay.m.H L o.A o.B).1),(0:Int),(0:Int),(5:Int),(-1:Int),([]:List fw),([]:List Int),(0:Int),(0:Int),(0:Int),(0:Int),(0:Int),(0:Int),(⟨S.most,S.nav,some C'⟩:bJ))) (Ok.opt (Ok.eq e1 (Ok.eq (QE _) (Ok.pure J)))) λr hr=>?_
   subst hr;refine fin ((if(xX c.ay.m.W c.ay.m.H L o.A o.B).1=0 then Er.nil else Er.num 148 (xX c.ay.m.W c.ay.m.H L o.A o.B).1),⟨S.most,S.nav,some C'⟩,a0) ⟨_,hS,?_⟩
   by_cases z:(xX c.ay.m.W c.ay.m.H L o.A o.B).1=0
   ·rw[ag z];exact .inl ⟨J,J,.inr (.inr (.inr (.inl ⟨.inr (.inl k4),J,J⟩)))⟩
   ·rw[ah z];exact .inr ⟨.inr ⟨_,z,J⟩,J,J,by omega⟩
  rw[ah (by simpa using k4)]
  by_cases k5:o.Kind=5
  ·rw[ag (by simpa using k5)]
   obtain⟨C',e1,e2,e3⟩:=ab' h3 o.A;have hS:jz ⟨S.most,S.nav,some C'⟩ k most (b+500000) (xW L o.A).2:=⟨h.m_,h.mb,⟨ord,hn.mono U⟩,.inr ⟨c,C',h1,J,e2,by omega,λu hu=>by
    unfold xW at hu;split at hu
    ·exact h5 u (NZ hu)
    ·exact h5 u hu⟩,h.kp⟩
   refine Ok.bind (P:=λr=>r=((if(xW L o.A).1=0 then Er.nil else Er.num 148 (xW L o.A).1),(0:Int),(0:Int),(5:Int),(-1:Int),([]:List fw),([]:List Int),(0:Int),(0:Int),(0:Int),(0:Int),(0:Int),(0:Int),(⟨S.most,S.nav,some C'⟩:bJ))) (Ok.opt (Ok.eq e1 (Ok.eq (QE _) (Ok.pure J)))) λr hr=>?_
   subst hr;refine fin ((if(xW L o.A).1=0 then Er.nil else Er.num 148 (xW L o.A).1),⟨S.most,S.nav,some C'⟩,a0) ⟨_,hS,?_⟩
   by_cases z:(xW L o.A).1=0
   ·rw[ag z];exact .inl ⟨J,J,.inr (.inr (.inr (.inl ⟨.inr (.inr k5),J,J⟩)))⟩
   ·rw[ah z];exact .inr ⟨.inr ⟨_,z,J⟩,J,J,by omega⟩
  rw[ah (by simpa using k5)]
  by_cases k6:o.Kind=6
  ·rw[ag (by simpa using k6)]
   obtain⟨r,er,hr⟩:=aki h ⟨hb.1,by omega⟩ k6 h1 h2 h3 h4 h5
   rw[er];exact Ok.eq J (fin r (hr.mono U))
  rw[ah (by simpa using k6),ag bf]
  obtain⟨r,er,hr⟩:=akv h ⟨hb.1,by omega⟩ (show o.Kind=7 by omega) h1 h2 h3 h4 h5
  rw[er];exact Ok.eq J (fin r (hr.mono U))
theorem ajE (q c:Int):Eo.f (Er.wrap 110 [q] (Er.num 148 c))=some c:=rfl
theorem ajD (q:Int):Eo.f (Er.wrap 110 [q] (Er.dW 0))=some 5:=rfl
theorem MS (h:jz S k most b L) (hb:0<=b/\b<=60000000000) {o:cR} (ho:qB o):
 Ok (jZ.f S o) (λr=> ∃L',jz r.2 k most (b+500000) L'/\r.1.Stats=gI r.2.nav/\((r.1.Code=0/\JJ k S L o r.2 L' r.1)∨(r.1.Code≠0/\r.2.nav=S.nav/\r.1.fF=[]/\o.Kind≠8))):=by
 unfold jZ.f;refine(ajK h hb ho).bind λr hr=>?_
 obtain⟨L',h1,h2⟩:=hr;obtain⟨ord,hn⟩:=h1.nav;have iq:AN.f r.2.1=some (gI r.2.1.nav):=by
  unfold AN.f;rw[akm hn ⟨by omega,by omega⟩];rfl
 rcases h2 with⟨e,z,q⟩ |⟨e |⟨c,c0,e⟩,z,q⟩
 ·rw[e];exact Ok.neg (by simp[Er.isNil]) (Ok.eq iq (Ok.pure ⟨L',h1,J,.inl ⟨z,q⟩⟩))
 ·rw[e];exact Ok.pos J (Ok.eq (ajD _) (Ok.eq iq (Ok.pure ⟨L',h1,J,.inr ⟨by simp,z,q⟩⟩)))
 ·rw[e];exact Ok.pos J (Ok.eq (ajE _ _) (Ok.eq iq (Ok.pure ⟨L',h1,J,.inr ⟨c0,z,q⟩⟩)))
end
theorem Sr:zb.f=some true:=aA
section
variable {S : bJ} {k most b : Int} {L : List aI}
theorem aj8 {k most:Int} (k1:1<=k) (k2:k<=1000000) (m1:1<=most) (m2:most<=100): ∃S,uU.f k most=some (some S)/\jz S k most 0 []/\S.nav.core=none/\gI S.nav=⟨0,0,0,0,0,0⟩:=by
 obtain⟨n,e,h1,h2,h3⟩:=ahX k1 k2;unfold uU.f;rw[ah bf,e];exact⟨_,J,⟨J,⟨m1,m2⟩,⟨[],h1⟩,.inl ⟨h2,J,J⟩,λc hc=>by simp only at hc;rw[h2] at hc;simp at hc⟩,h2,h3⟩
def LU (S:bJ):aJ:=match S.nav.core with |none=>⟨0,0,[]⟩ |some c=>c.ay.m
theorem WW {c:d_} (hc:S.nav.core=some c):LU S=c.ay.m:=by unfold LU;rw[hc]
theorem YJ (h:jz S k most b L):tK.f S=some (LU S):=by
 obtain⟨ord,hn⟩:=h.nav;unfold tK.f LU
 cases hc:S.nav.core with
 |none=>unfold w9.f;rw[hc];rfl
 |some c=>rw[ahW hn hc];rfl
theorem ac9 (l:List p9) {n:Int} (h:0<=n): ∃r,xA.f l n=some r:=by
 unfold xA.f
 by_cases z:n<(l.length:Int)
 ·simp only[ag z];exact⟨n,by rw[ag U]⟩
 ·simp only[ah z];exact⟨_,by rw[ag U]⟩
end
section
variable {S : bJ} {k most b : Int} {L : List aI}
theorem ajI (w h:Int) (c:List Int) (l:List p9): ∀(q:Nat) (x9 aN:Int) (bj:List Int) (x:List cR) (N i:Int) (r:List cR),lv.l0 q w h c l x9 aN bj x N i=some r-> ∃t,r=x++t:=by
 intro q
 induction q with
 |zero=>intro x9 aN bj x N i r e;simp[lv.l0] at e
 |succ q ih=>
  intro x9 aN bj x N i r e;rw[lv.l0] at e
  by_cases z:((decide (i<(aa l:Int)))&&(decide (i<60)))=true
  ·rw[ag z] at e
   by_cases y:0<=i/\i<(aa l:Int)
   ·rw[ag y] at e;obtain⟨⟨v1,v2,v3,v4⟩,_,e⟩:=Option.bind_eq_some_iff.1 e;obtain⟨⟨y1,y2,y3,y4,y5,y6,y7,y8⟩,_,e⟩:=Option.bind_eq_some_iff.1 e;dsimp only at e
    by_cases u:x.length+1<=1099511627776
    ·rw[ag u] at e;obtain⟨t,rfl⟩:=ih _ _ _ _ _ _ _ e;exact⟨_::t,by rw[pn];rfl⟩
    ·rw[ah u] at e;cases e
   ·rw[ah y] at e;cases e
  ·rw[ah z] at e;simp only[Option.some.injEq] at e;exact⟨[],by simp[e]⟩
theorem ajF (w h:Int) {c:List Int} (hc: ∀y∈c,dZ y) (l:List p9): ∃m t,lv.f w h c l=some (⟨1,0,0,bytesOf m⟩::t)/\sL m/\m.W<=40/\m.H<=40/\t.length<=60/\ ∀o∈t,qB o:=by
 obtain⟨r,er,r0,r1,r2⟩:=ajG w h hc l;have er':=er;unfold lv.f at er;obtain⟨m,em,hm,m1,m2⟩:=QG w h hc;rw[em,aD,QJ hm,aD] at er;obtain⟨t,rfl⟩:=ajI _ _ _ _ _ _ _ _ _ _ _ _ er;exact⟨m,t,er',hm,m1,m2,by simp at r1;omega,λo ho=>r2 o (by simp[ho])⟩
theorem ZB (h:jz S k most b L) (hb:0<=b/\b<=60000000000) (hc:S.nav.core=none) {m:aJ} (hm:sL m) (m1:m.W<=40) (m2:m.H<=40): ∃a S',jZ.f S ⟨1,0,0,bytesOf m⟩=some (a,S')/\(∃L',jz S' k most (b+500000) L')/\ ∃c,S'.nav.core=some c:=by
 have ho:=LQ hm m1 m2;obtain⟨⟨a,S'⟩,e,L',h1,_⟩:=MS h hb ho;refine⟨a,S',e,⟨L',h1⟩,?_⟩;obtain⟨ord,hn⟩:=h.nav;have hl:=NC hm;have jD:dB m.W m.H<=3*3:=by
  unfold dB bq;rw[ag hm.ok.1];have:=hm.ok.1;exact kc (by simp only;omega) (by simp only;omega) (by simp only;omega) (by simp only;omega)
 have HQ:MY m:=⟨hm.ok,λc c0 c1=>hm.rG _ (dR c0 (by have:=hm.ok.2.1;omega)),by
  have:m.W*m.H<=40*40:=kc (by have:=hm.ok.1;omega) (by have:=hm.ok.1;omega) m1 m2
  omega⟩
 obtain⟨n',c',e1,e2,_⟩:=Xc hn ⟨hb.1,by omega⟩ HQ
 obtain⟨C,eC,_⟩:=W_ (w:=m.W) (h:=m.H) (most:=most) hm.ok.1 h.mb.1 (by have:=h.mb;omega)
 have vq:S.eT=none:=by
  rcases h.cr with⟨_,z,_⟩ |⟨c,_,z,_⟩
  ·exact z
  ·rw[hc] at z;simp at z
 have el:vL.f S (bytesOf m)=some (Er.nil,⟨most,n',some C⟩):=by
  unfold vL.f;rw[adC hm U,aD,ah aX,e1,aD,ag aX,h.m_,eC];rfl
 have key:tL.f S ⟨1,0,0,bytesOf m⟩ a0=some (Er.nil,⟨most,n',some C⟩,a0):=by
  have ec:rk.f S ⟨1,0,0,bytesOf m⟩=some Er.nil:=by
   unfold rk.f;rw[ah aX,ah aX]
  unfold tL.f;rw[ah aX,Qn ho aX,aD,aD,ah aX,vq];have eo:(dA (none:Option eK) (if((cR.mk 1 0 0 (bytesOf m)).Kind !=1)=true then(some ((cR.mk 1 0 0 (bytesOf m)).Kind !=8)) else(some false)) (λx6=>some false))=some false:=rfl
  rw[eo,aD,ah aX,ec,aD,ah (by simp[Er.isNil]),ag aX,el];rfl
 unfold jZ.f at e;have ea:jn.mk 0 0 5 (-1) ([]:List fw) ([]:List Int) (gD.mk 0 0 0 0 0 0)=a0:=rfl;rw[ea,key,aD,ah (by simp[Er.isNil])] at e
 obtain⟨_,_,e⟩:=Option.bind_eq_some_iff.1 e;simp only[Option.some.injEq,Prod.mk.injEq] at e;rw[<-e.2];exact⟨c',e2⟩
theorem acu {S':bJ} {L':List aI} {o:cR} {a:jn} {c:d_} (hc:S.nav.core=some c) (Lc:(a.Code=0/\JJ k S L o S' L' a)∨(a.Code≠0/\S'.nav=S.nav/\a.fF=[]/\o.Kind≠8)): ∃c',S'.nav.core=some c':=by
 rcases Lc with⟨_,y |y |y |y |y |y⟩ |⟨_,y,_⟩
 ·obtain⟨_,_,_,_,_,c',z,_⟩:=y;exact⟨c',z⟩
 ·rcases y.2.2.2.2.2 with⟨z,_⟩ |⟨c2,_,z⟩
  ·rw[hc] at z;simp at z
  ·exact⟨_,z⟩
 ·obtain⟨_,_,_,_,c2,_,_,z⟩:=y;exact⟨_,z⟩
 ·rw[y.2.2];exact⟨c,hc⟩
 ·obtain⟨_,_,_,c2,b',ord,f,_,_,_,_,z,_⟩:=y;obtain⟨_,c3,z1,_⟩:=Kx z;exact⟨c3,z1⟩
 ·obtain⟨_,c2,aO,_,_,z,_⟩:=y;rcases TE z with⟨_,z⟩ |⟨_,_,c3,z,_⟩
  ·rw[z];exact⟨c,hc⟩
  ·exact⟨c3,z⟩
 ·rw[y];exact⟨c,hc⟩
theorem ahn {m:aJ} (hm:rC m):D3.f m=some true:=by
 have hp:=rW hm.1;have hl:=hm.2.1;unfold D3.f;rw[QH,decide_eq_true hm.1,aD,ag J,wi (x:=m.W*m.H) U U,ag (by simpa using hl),adp _ U,decide_eq_true hm.2.2];rfl
theorem aip {x:List cR} (hx: ∀o∈x,qB o) (hl:x.length<=61): ∀(n q:Nat) (S:bJ) (i:Int) (L:List aI),(x.length-i).toNat<=n->n<q->0<=i->i<=x.length->jz S k most (500000*i) L->(∃c,S.nav.core=some c)-> ∃S' L',og.l0 q x S i=some (some S')/\jz S' k most 30500000 L'/\ ∃c,S'.nav.core=some c:=by
 have fin: ∀(q:Nat) (S:bJ) (i:Int) (L:List aI),¬i<x.length->i<=x.length->jz S k most (500000*i) L->(∃c,S.nav.core=some c)-> ∃S' L',og.l0 (q+1) x S i=some (some S')/\jz S' k most 30500000 L'/\ ∃c,S'.nav.core=some c:=λq S i L hi dK h ⟨c,hc⟩=>by
  obtain⟨ord,hn⟩:=h.nav;refine⟨S,L,?_,h.mono U,c,hc⟩;rw[og.l0,ah hi,YJ h,aD,WW hc,ahn (hn.core c hc).1.gs.ok,aD,ah aX]
 intro n
 induction n with
 |zero=>
  intro q S i L hn hq h0 hi h hc;obtain⟨q,rfl⟩:=bl hq;exact fin q S i L U hi h hc
 |succ n ih=>
  intro q S i L hn hq h0 hi h hc;obtain⟨q,rfl⟩:=bl hq
  by_cases z:i<x.length
  ·have ho:=hx _ (dR h0 z);obtain⟨⟨a,S'⟩,e,L',h',_,Lc⟩:=MS h ⟨by omega,by omega⟩ ho
   simp only at h' Lc;obtain⟨c,hc⟩:=hc;rw[og.l0,ag z,ag ⟨h0,z⟩,e,aD,wi U U];exact ih q S' (i+1) L' U U U U (by rw[show 500000*(i+1)=500000*i+500000 by omega];exact h') (acu hc Lc)
  ·exact fin q S i L z hi h hc
theorem aio {k most:Int} (k1:1<=k) (k2:k<=1000000) (m1:1<=most) (m2:most<=100) (w h:Int) {c:List Int} (hc: ∀y∈c,dZ y) (l:List p9): ∃S L,og.f k most w h c l=some (some S)/\jz S k most 30500000 L/\ ∃c,S.nav.core=some c:=by
 obtain⟨S,eS,hS,hcS,_⟩:=aj8 (k:=k) (most:=most) k1 k2 m1 m2;obtain⟨m,t,ex,hm,MK,KS,ht,hot⟩:=ajF w h hc l;obtain⟨a,S1,e1,⟨L1,h1⟩,p8⟩:=ZB hS ⟨by omega,by omega⟩ hcS hm MK KS
 unfold og.f;rw[eS,aD]
 show ∃S L,((lv.f w h c l).bind _)=_/\_
 rw[ex,aD];obtain⟨q,hq⟩: ∃q,fuel=q+1:=⟨fuel-1,by rw[cI]⟩
 have HU:100<q:=by have:=cI;omega
 rw[hq,og.l0,ag aX,ag ⟨by omega,by simp⟩]
 have er:rd ((⟨1,0,0,bytesOf m⟩:cR)::t) 0=⟨1,0,0,bytesOf m⟩:=rfl;rw[er,e1,aD,wi U U];exact aip (x:=⟨1,0,0,bytesOf m⟩::t) (λo ho=>by
  rcases List.mem_cons.1 ho with rfl |ho
  ·exact LQ hm MK KS
  ·exact hot o ho) bf 100 q S1 (0+1) L1 bf HU U bf (by simpa using h1) p8
end
def Hk (l:List cT):Prop:= ∀j:Int,1<=j->j<l.length->(rd l ((j-1)/2)).key<=(rd l j).key
def ZA (l:List cT) (i:Int):Prop:=(∀j:Int,1<=j->j<l.length->j≠i->(rd l ((j-1)/2)).key<=(rd l j).key)/\ ∀j:Int,1<=j->j<l.length->(j-1)/2=i->1<=i->(rd l ((i-1)/2)).key<=(rd l j).key
def Gl (l:List cT) (i:Int):Prop:=(∀j:Int,1<=j->j<l.length->(j-1)/2≠i->(rd l ((j-1)/2)).key<=(rd l j).key)/\ ∀j:Int,1<=j->j<l.length->(j-1)/2=i->1<=i->(rd l ((i-1)/2)).key<=(rd l j).key
theorem af_ {l:List cT} (h:Hk l): ∀(n:Nat) (j:Int),j.toNat<=n->0<=j->j<l.length->(rd l 0).key<=(rd l j).key:=by
 intro n
 induction n with
 |zero=>intro j hn h0 h1;rw[show j=0 by omega];exact dU _
 |succ n ih=>
  intro j hn h0 h1
  by_cases z:j=0
  ·rw[z];exact dU _
  ·have a:=h j U h1;have b:=ih ((j-1)/2) U U U;omega
theorem Kr {a b:cT}:(CY a b=true->a.key<=b.key)/\(CY a b=false->b.key<=a.key):=by
 unfold CY
 by_cases h:a.key<b.key
 ·simp[h];omega
 ·by_cases g:a.key=b.key
  ·simp[h,g]
  ·simp[h,g];omega
theorem B7 {l:List cT} {i j c:Int} (i0:0<=i) (i1:i<l.length) (j0:0<=j) (j1:j<l.length) (c0:0<=c):rd (aG (aG l i.toNat (rd l j)) j.toNat (rd l i)) c=if c=j then rd l i else if c=i then rd l j else rd l c:=by
 rw[BM j0 (by simpa using j1) c0,BM i0 i1 c0]
theorem akP: ∀(n k:Nat) (l:List cT) (i:Int),i.toNat<=n->n<k->0<=i->i<l.length->l.length<=1099511627776->ZA l i->Ok (ni.l0 k l i) (λh=>Hk h.l):=by
 intro n
 induction n with
 |zero=>
  intro k l i hn hk h0 hi hb hu;obtain⟨k,rfl⟩:=bl hk;rw[ni.l0,ah U];exact Ok.pure λj j1 j2=>hu.1 j j1 j2 U
 |succ n ih=>
  intro k l i hn hk h0 hi hb hu;obtain⟨k,rfl⟩:=bl hk;rw[ni.l0];refine Ok.ite (λhp=>?_) (λhp=>Ok.pure λj j1 j2=>hu.1 j j1 j2 U);have ew:af (dm (af (i-1)) 2)=(i-1)/2:=by rw[wi (x:=i-1) U U,qz U,wi U U]
  simp only[ew];refine Ok.cz U (Ok.cz U (Ok.eq (Kq _ _) (Ok.ite (λq=>Ok.pure λj j1 j2=>?_) λq=>Ok.cz bf ?_)))
  ·have q:CY (rd l i) (rd l ((i-1)/2))=false:=by simpa using q
   by_cases z:j=i
   ·rw[z];exact Kr.2 q
   ·exact hu.1 j j1 j2 z
  ·have q:CY (rd l i) (rd l ((i-1)/2))=true:=by simpa using q
   have hq:=Kr.1 q;refine ih k _ ((i-1)/2) U U U bf (by simpa using hb) ⟨λj j1 j2 hj=>?_,λj j1 j2 hj i1=>?_⟩
   ·simp only[mo] at j2;rw[B7 h0 hi U U U,B7 h0 hi U U U,ah hj]
    by_cases z:j=i
    ·subst z;rw[ag rfl,ag rfl];exact hq
    ·rw[ah z]
     by_cases y:(j-1)/2=(i-1)/2
     ·rw[ag y];have:=hu.1 j j1 j2 z;rw[y] at this;omega
     ·rw[ah y]
      by_cases x:(j-1)/2=i
      ·rw[ag x];exact hu.2 j j1 j2 x U
      ·rw[ah x];exact hu.1 j j1 j2 z
   ·simp only[mo] at j2;have hpp:=hu.1 ((i-1)/2) i1 U U;rw[B7 h0 hi U U U,B7 h0 hi U U U,ah U,ah U,ah U]
    by_cases z:j=i
    ·rw[ag z];exact hpp
    ·rw[ah z];have:=hu.1 j j1 j2 z;rw[hj] at this;omega
theorem aiv (h:eW) (k i:Int) (hb:h.l.length<1099511627776) (ho:Hk h.l):Ok (nh.f h k i) (λr=>r.l.length=h.l.length+1/\(∀e,e∈r.l↔e∈h.l∨e=⟨k,i⟩)/\Hk r.l):=by
 obtain⟨r,er,r1,r2⟩:=FI h k i hb;refine⟨r,er,r1,r2,?_⟩;unfold nh.f ni.f at er;rw[ag U] at er;simp only[tX,kU,tY] at er;rw[wi U U] at er;obtain⟨q,eq,hq⟩:=akP h.l.length fuel (h.l++[⟨k,i⟩]) (((h.l.length+(0+1):Nat):Int)-1) U (by rw[cI];omega) U bf bf ⟨λj j1 j2 hj=>by
  simp only[tX,kU,tY] at j2;rw[Yg U U,Yg U U,ah U,ah U];exact ho j j1 U,λj j1 j2 hj _=>by
  simp only[tX,kU,tY] at j2;omega⟩
 rw[eq,aD] at er;simp only[Option.some.injEq] at er;rw[<-er];exact hq
theorem acW: ∀(n k:Nat) (l:List cT) (i m j:Int),(2*i+3-j).toNat<=n->n<k->0<=i->i<l.length->(m=i∨(i<m/\(m-1)/2=i))->m<l.length->i<j->2*i+1<=j->l.length<=1099511627776->Gl l i->(rd l m).key<=(rd l i).key->(∀c:Int,2*i+1<=c->c<j->c<=2*i+2->c<l.length->(rd l m).key<=(rd l c).key)->
 Ok (gr.l1 k l i m j) (λr=>(r=Sum.inl ⟨l⟩/\Hk l)∨ ∃l' m',r=Sum.inr (l',m')/\l'.length=l.length/\i<m'/\m'<l.length/\Gl l' m'):=by
 have fin: ∀(l:List cT) (i m j:Int),0<=i->i<l.length->(m=i∨(i<m/\(m-1)/2=i))->m<l.length->l.length<=1099511627776->Gl l i->(rd l m).key<=(rd l i).key->(∀c:Int,2*i+1<=c->c<=2*i+2->c<l.length->(rd l m).key<=(rd l c).key)->
  Ok (if(m==i)=true then(some (Sum.inl (eW.mk l))) else(if(0<=m/\m<(aa l:Int)) then(if(0<=i/\i<(aa l:Int)) then(if(0<=m/\m<(aa (aG l (ax i) (rd l m)):Int)) then(some (Sum.inr ((aG (aG l (ax i) (rd l m)) (ax m) (rd l i)),m))) else none) else none) else none)) (λr=>(r=Sum.inl ⟨l⟩/\Hk l)∨ ∃l' m',r=Sum.inr (l',m')/\l'.length=l.length/\i<m'/\m'<l.length/\Gl l' m'):=λl i m j i0 i1 hm m1 hb hd Fi wQ=>by
  refine Ok.ite (λq=>Ok.pure (.inl ⟨J,λc c1 c2=>?_⟩)) λq=>?_
  ·have q:m=i:=by simpa using q
   by_cases z:(c-1)/2=i
   ·rw[z,<-q];exact wQ c U U c2
   ·exact hd.1 c c1 c2 z
  ·have q:m≠i:=by simpa using q
   obtain⟨m2,m3⟩:=hm.resolve_left q;refine Ok.cz U (Ok.cz U (Ok.cz bf (Ok.pure (.inr ⟨_,_,J,by simp,m2,m1,λc c1 c2 hc=>?_,λc c1 c2 hc _=>?_⟩))))
   ·simp only[mo] at c2;rw[B7 i0 i1 U m1 U,B7 i0 i1 U m1 U,ah hc]
    by_cases z:(c-1)/2=i
    ·rw[ag z]
     by_cases y:c=m
     ·rw[ag y];exact Fi
     ·rw[ah y,ah U];exact wQ c U U c2
    ·rw[ah z]
     by_cases y:c=m
     ·exact absurd (by rw[y];exact m3) z
     ·rw[ah y]
      by_cases x:c=i
      ·rw[ag x];have:=hd.2 m U m1 m3 U;rw[x];exact this
      ·rw[ah x];exact hd.1 c c1 c2 z
   ·simp only[mo] at c2;rw[B7 i0 i1 U m1 U,B7 i0 i1 U m1 U,m3,ah U,ag J,ah U,ah U];have:=hd.1 c c1 c2 U;rw[hc] at this;exact this
 intro n
 induction n with
 |zero=>
  intro k l i m j hn hk i0 i1 hm m1 hj HN hb hd Fi wQ;obtain⟨k,rfl⟩:=bl hk;rw[gr.l1,wi (x:=2*i) U U,wi (x:=2*i+2) U U,ah U];simp only[aD,gj,if_false];exact fin l i m j i0 i1 hm m1 hb hd Fi λc c1 c2 c3=>wQ c c1 U c2 c3
 |succ n ih=>
  intro k l i m j hn hk i0 i1 hm m1 hj HN hb hd Fi wQ;obtain⟨k,rfl⟩:=bl hk;rw[gr.l1,wi (x:=2*i) U U,wi (x:=2*i+2) U U];have hx:(if j<=2*i+2 then some (decide (j<(l.length:Int))) else some false)=some (decide (j<=2*i+2/\j<l.length)):=by
   by_cases a:j<=2*i+2<;>simp[a]
  rw[hx];simp only[aD];refine Ok.ite (λq=>?_) λq=>?_
  ·have q':=of_decide_eq_true q;refine Ok.cz U (Ok.cz U (Ok.eq (Kq _ _) (Ok.ite (λw=>?_) λw=>?_)))
   ·have hw:=Kr.1 w;rw[wi U U];refine ih k l i j (j+1) U U i0 i1 (.inr ⟨hj,by omega⟩) q'.2 U U hb hd U λc c1 c2 c3 c4=>?_
    by_cases z:c=j
    ·rw[z];exact dU _
    ·have:=wQ c c1 U c3 c4;omega
   ·have hw:=Kr.2 (by simpa using w)
    rw[wi U U];refine ih k l i m (j+1) U U i0 i1 hm m1 U U hb hd Fi λc c1 c2 c3 c4=>?_
    by_cases z:c=j
    ·rw[z];exact hw
    ·exact wQ c c1 U c3 c4
  ·have q: ¬(j<=2*i+2/\j<l.length):=by simpa using q
   exact fin l i m j i0 i1 hm m1 hb hd Fi λc c1 c2 c3=>wQ c c1 U c2 c3
theorem acV: ∀(n k:Nat) (l:List cT) (i:Int),l.length-i.toNat<=n->n<k->0<=i->i<l.length->l.length<=1099511627776->Gl l i->Ok (gr.l0 k l i) (λh=>Hk h.l):=by
 intro n
 induction n with
 |zero=>intro k l i hn hk i0 i1;omega
 |succ n ih=>
  intro k l i hn hk i0 i1 hb hd;obtain⟨k,rfl⟩:=bl hk;rw[gr.l0,wi (x:=2*i) U U,wi (x:=2*i+1) U U];refine(acW (i.toNat+3) fuel l i i (2*i+1) U (by rw[cI];omega) i0 i1 (.inl J) i1 U U hb hd (dU _) (λc c1 c2=>by omega)).bind λr hr=>?_
  rcases hr with⟨rfl,z⟩ |⟨l',m',rfl,e1,e2,e3,e4⟩
  ·exact Ok.pure z
  ·exact ih k l' m' U U U U U e4
theorem air (h:eW) (hb:h.l.length<=1099511627776) (ho:Hk h.l):Ok (ng.f h) (λr=>RG h.l r/\Hk r.2.2.2.l/\(r.2.2.1=true-> ∀e∈h.l,r.1<=e.key)):=by
 obtain⟨r,er,hr⟩:=FH h hb;refine⟨r,er,hr,?_,λhq e he=>?_⟩
 rotate_left
 ·rcases hr with⟨_,rfl⟩ |⟨_,_,h3,_⟩
  ·simp at hq
  ·obtain⟨c,c0,c1,rfl⟩:=IC.1 he;have:=af_ ho _ c (l7 _) c0 c1;rw[<-h3] at this;exact this
 obtain⟨l⟩:=h
 by_cases hl:l=[]
 ·rcases hr with⟨_,rfl⟩ |⟨z,_⟩
  ·intro j j1 j2;simp at j2;omega
  ·exact absurd hl z
 have hp:0<l.length:=List.length_pos_iff.2 hl;simp only at hb ho;unfold ng.f Dc.f Db.f gr.f at er;simp only[aD] at er;rw[ah (by simpa using hl),ag U,wi (x:=(l.length:Int)-1) U U] at er
 simp only[aD,if_true] at er;rw[ag U,ag U,ag bf] at er;obtain⟨v,ev,er⟩:=Option.bind_eq_some_iff.1 er;simp only[Option.some.injEq] at er;rw[<-er];simp only;have hs:aB (aG l (ax 0) (rd l ((l.length:Int)-1))) 0 ((l.length:Int)-1)=(aG l 0 (rd l ((l.length:Int)-1))).take (l.length-1):=by unfold aB;simp
 rw[hs] at ev;have hlen:((aG l 0 (rd l ((l.length:Int)-1))).take (l.length-1)).length=l.length-1:=by simp
 have ht: ∀d:Int,0<=d->d<(l.length:Int)-1->rd ((aG l 0 (rd l ((l.length:Int)-1))).take (l.length-1)) d=if d=0 then rd l ((l.length:Int)-1) else rd l d:=by
  intro d d0 d1;have:=BM (L:=l) (i:=0) (c:=d) (v:=rd l ((l.length:Int)-1)) U U d0;rw[<-this];simp only[Int.toNat_zero];rw[jc (xs:=List.take _ _) bf,List.getElem_take,jc (xs:=aG _ _ _) bf]
 by_cases h1:l.length=1
 ·have e0:(aG l 0 (rd l ((l.length:Int)-1))).take (l.length-1)=[]:=by rw[h1];rfl
  rw[e0] at ev;have hd:gr.l0 fuel [] 0=some ⟨[]⟩:=by
   obtain⟨k,hk⟩: ∃q,fuel=q+1+1:=⟨fuel-2,by rw[cI]⟩
   rw[hk,gr.l0,hk,gr.l1];rfl
  rw[hd] at ev;simp only[Option.some.injEq] at ev;rw[<-ev];intro j j1 j2;simp at j2;omega
 ·obtain⟨q,eq,hq⟩:=acV l.length fuel ((aG l 0 (rd l ((l.length:Int)-1))).take (l.length-1)) 0 aX (by rw[cI];omega) U U U ⟨λj j1 j2 hj=>by
   rw[ht j U U,ht _ U U,ah hj,ah U];exact ho j j1 U,λj j1 j2 hj i1=>by omega⟩
  rw[eq] at ev;simp only[Option.some.injEq] at ev;rw[<-ev];exact hq
def pO (m:aJ) (c:Int):Prop:=bV m c/\rd m.C c≠255
def Rx (m:aJ):Prop:= ∀c:Int,bV m c->1<=rd m.C c/\rd m.C c<=255
inductive Way (m:aJ) (t:Int):Int->Int->Prop
 |here:pO m t->Way m t t 0
 |go {c k n:Int} (side:Int):Way m t c k->0<=side->side<=3->bB m.W m.H n side=c->pO m n->Way m t n (k+rd m.C c)
theorem MM {m:aJ} {t c k:Int} (h:Way m t c k):pO m c:=by
 cases h with
 |here h=>exact h
 |go _ _ _ _ _ h=>exact h
theorem akW {m:aJ} {t c k:Int} (h:Way m t c k):pO m t:=by
 induction h with
 |here h=>exact h
 |go _ _ _ _ _ _ ih=>exact ih
theorem Zj {m:aJ} {t c k:Int} (hc:Rx m) (h:Way m t c k):0<=k:=by
 induction h with
 |here h=>exact dU _
 |go s h1 _ _ _ _ ih=>have:=hc _ (MM h1).1;omega
theorem akq {w h c s t:Int} (hc:bQ w h c) (s0:0<=s) (s4:s<=4) (t0:0<=t) (t4:t<=4) (hs:bQ w h (bB w h c s)) (hx:dX t= -dX s) (hy:dY t= -dY s):bB w h (bB w h c s) t=c:=by
 rcases F3 hc s0 s4 with⟨h1,_⟩ |⟨_,b1,b2,_⟩
 ·rw[h1] at hs;obtain⟨_,h2,_⟩:=hs;omega
 ·have e:bB w h (bB w h c s) t=oa w h (bB w h c s%w+dX t) (bB w h c s/w+dY t):=by unfold bB;rw[ag (c:=bQ w h _/\0<=t/\_) ⟨by unfold bB at hs;exact hs,t0,t4⟩]
  rw[e,b1,b2,hx,hy];have e1:c%w+dX s+ -dX s=c%w:=U;have e2:c/w+dY s+ -dY s=c/w:=U;rw[e1,e2,NL hc]
theorem EN {m:aJ} (hm:rC m) {n c s:Int} (hn:bV m n) (hc:bV m c) (s0:0<=s) (s3:s<=3) (h:bB m.W m.H n s=c): ∃t,0<=t/\t<=3/\bB m.W m.H c t=n:=by
 have hbk: ∃t,0<=t/\t<=3/\dX t= -dX s/\dY t= -dY s:=by
  have hs:s=0∨s=1∨s=2∨s=3:=U;rcases hs with rfl |rfl |rfl |rfl
  ·exact⟨2,by omega,by omega,J,J⟩
  ·exact⟨3,by omega,by omega,J,J⟩
  ·exact⟨0,by omega,by omega,J,J⟩
  ·exact⟨1,by omega,by omega,J,J⟩
 obtain⟨t,t0,t3,tx,ty⟩:=hbk;refine⟨t,t0,t3,?_⟩;have:=akq (ir hm hn) s0 (by omega:s<=4) t0 (by omega:t<=4) (by rw[h];exact ir hm hc) tx ty
 rw[h] at this;exact this
section
variable {g : bx} {more : Int}
theorem FC {c:Int}:r8 g c↔pO g.m c:=by
 unfold r8 pO fh;constructor
 ·rintro⟨a,b⟩;rw[ag a] at b;exact⟨a,b⟩
 ·rintro⟨a,b⟩;exact⟨a,by rw[ag a];exact b⟩
theorem S5 (h:cQ g more):Rx g.m:=λc hc=>h.rG c hc.1 hc.2
theorem EZ {c:Int} (hc:bV g.m c):fh g c=rd g.m.C c:=by unfold fh;rw[ag hc]
def Nb (g:bx) (goal c d n:Int):Prop:=0<=d/\d<=3/\n=bB g.m.W g.m.H c d/\pO g.m n/\aQ g.m.W g.m.H n=aQ g.m.W g.m.H goal
theorem ak5 (h:cQ g more) (goal cell key:Int) (m:List (Int×Int)) (hc:r8 g cell) (k0:0<=key) (k1:key<=1000000000): ∀(n k:Nat) (l:List cT) (s:Int),(4-s).toNat<=n->n<k->0<=s->l.length<=10000000-4+s->Hk l->
 Ok (f_.l1 k goal g (g.m.W,g.m.H) m cell key l s) (λr=>r.1=cF m cell key/\r.2.length<=l.length+(4-s).toNat/\Hk r.2/\(∀e∈l,e∈r.2)/\(∀e∈r.2,e∈l∨ ∃d,Nb g goal cell d e.item/\e.key=key+rd g.m.C cell)/\ ∀d n,s<=d->Nb g goal cell d n->⟨key+rd g.m.C cell,n⟩∈r.2):=by
 have eV:=Ha h hc.1;have vq:=EZ hc.1;intro n
 induction n with
 |zero=>
  intro k l s hn hk s0 hl ho;obtain⟨k,rfl⟩:=bl hk;rw[f_.l1,ah U];exact Ok.pure ⟨J,by simp,ho,λe he=>he,λe he=> .inl he,λd n hd hn=>by have:=hn.2.1;omega⟩
 |succ n ih=>
  intro k l s hn hk s0 hl ho;obtain⟨k,rfl⟩:=bl hk;rw[f_.l1];refine Ok.ite (λhs=>?_) λhs=>Ok.pure ⟨J,by simp only;omega,ho,λe he=>he,λe he=> .inl he,λd n hd hn=>by have:=hn.2.1;omega⟩
  refine Ok.eq (F4 ..) ?_;have PD:Ok (if bB g.m.W g.m.H cell s<0 then some true else(gJ.f g.m.W g.m.H (bB g.m.W g.m.H cell s)).bind λv28=>(gJ.f g.m.W g.m.H goal).bind λrm=>if(v28 !=rm)=true then some true else(jq.f g (bB g.m.W g.m.H cell s)).bind λv30=>some (v30==255)) (λb=>b=false↔Nb g goal cell s (bB g.m.W g.m.H cell s)):=by
   refine Ok.ite (λq=>Ok.pure ⟨by simp,λz=>?_⟩) λq=>Ok.eq (si ..) (Ok.eq (si ..) (Ok.ite (λw=>Ok.pure ⟨by simp,λz=>?_⟩) λw=>Ok.eq (sU h _) (Ok.pure ?_)))
   ·have:=z.2.2.2.1.1.1;omega
   ·have w:aQ g.m.W g.m.H (bB g.m.W g.m.H cell s)≠aQ g.m.W g.m.H goal:=by simpa using w
    exact absurd z.2.2.2.2 w
   ·have w:aQ g.m.W g.m.H (bB g.m.W g.m.H cell s)=aQ g.m.W g.m.H goal:=by simpa using w
    have bZ:=Mv q;rw[EZ bZ];constructor
    ·intro z;exact⟨s0,by omega,J,⟨bZ,by simpa using z⟩,w⟩
    ·intro z;simpa using z.2.2.2.1.2
  refine PD.bind λb hb=>Ok.ite (λq=>?_) λq=>?_
  ·rw[wi U U];refine(ih k l (s+1) U U U U ho).mono λr hr=>⟨hr.1,by have:=hr.2.1;omega,hr.2.2.1,hr.2.2.2.1,hr.2.2.2.2.1,λd x hd hx=>?_⟩
   by_cases z:d=s
   ·subst z;have:=hx.2.2.1;subst this;have:=hb.2 hx;rw[this] at q;simp at q
   ·exact hr.2.2.2.2.2 d x U hx
  ·have hnb:=hb.1 (by simpa using q)
   refine Ok.eq (sU h _) ((aiv ⟨l⟩ _ _ (by simp only;omega) ho).bind λr hr=>?_)
   simp only at hr;rw[wi (x:=s+1) U U];have ek:af (key+fh g cell)=key+rd g.m.C cell:=by rw[wi U U,vq]
   rw[ek] at hr;refine(ih k r.l (s+1) U U U U hr.2.2).mono λr' oK=>⟨oK.1,by have:=oK.2.1;omega,oK.2.2.1,λe he=>oK.2.2.2.1 e ((hr.2.1 e).2 (.inl he)),λe he=>?_,λd x hd hx=>?_⟩
   ·rcases oK.2.2.2.2.1 e he with z |z
    ·rcases(hr.2.1 e).1 z with y |rfl
     ·exact .inl y
     ·exact .inr ⟨s,hnb,J⟩
    ·exact .inr z
   ·by_cases z:d=s
    ·subst z;have:=hx.2.2.1;subst this;exact oK.2.2.2.1 _ ((hr.2.1 _).2 (.inr J))
    ·exact oK.2.2.2.2.2 d x U hx
structure WI (g:bx) (goal:Int) (m:List (Int×Int)) (l:List cT) (key cell:Int) (ok:Bool):Prop where
 w: ∀c,bt m c=true->Way g.m goal c (aP m c)/\aQ g.m.W g.m.H c=aQ g.m.W g.m.H goal
 hl: ∀e∈l,Way g.m goal e.item e.key/\aQ g.m.W g.m.H e.item=aQ g.m.W g.m.H goal/\ ∀c,bt m c=true->aP m c<=e.key
 cur:ok=true->Way g.m goal cell key/\aQ g.m.W g.m.H cell=aQ g.m.W g.m.H goal/\(∀e∈l,key<=e.key)/\ ∀c,bt m c=true->aP m c<=key
 no:ok=false->l=[]
 o:Hk l
 st:(bt m goal=true/\aP m goal<=0)∨(ok=true/\cell=goal/\key<=0)
 cl: ∀c,bt m c=true-> ∀d n,Nb g goal c d n->(bt m n=true/\aP m n<=aP m c+rd g.m.C c)∨(ok=true/\cell=n/\key<=aP m c+rd g.m.C c)∨ ∃e∈l,e.item=n/\e.key<=aP m c+rd g.m.C c
structure Gq (g:bx) (goal:Int) (m:List (Int×Int)):Prop where
 w: ∀c,bt m c=true->Way g.m goal c (aP m c)
 st:pO g.m goal->bt m goal=true/\aP m goal<=0
 cl: ∀c,bt m c=true-> ∀d n,Nb g goal c d n->bt m n=true/\aP m n<=aP m c+rd g.m.C c
theorem ak4 (h:cQ g more) (hN:g.m.W*g.m.H<=1600) (goal:Int): ∀(n k:Nat) (m:List (Int×Int)) (l:List cT) (key cell:Int) (ok:Bool),
 5*nG g m+l.length+(if ok then 1 else 0)<=n->n<k->l.length+5*nG g m<=9000->
 (∀e∈l,r8 g e.item/\0<=e.key/\e.key+254*(nG g m:Int)<=254*1600)->(ok=true->r8 g cell/\0<=key/\key+254*(nG g m:Int)<=254*1600)->WI g goal m l key cell ok->
 Ok (f_.l0 k goal g (g.m.W,g.m.H) m l key cell ok) (Gq g goal):=by
 have fin: ∀(m:List (Int×Int)) (l:List cT) (key cell:Int),WI g goal m l key cell false->Gq g goal m:=λm l key cell hi=>by
  have e:=hi.no J;subst e;refine⟨λc hc=>(hi.w c hc).1,λ_=>?_,λc hc d n hn=>?_⟩
  ·rcases hi.st with z |⟨z,_⟩
   ·exact z
   ·simp at z
  ·rcases hi.cl c hc d n hn with z |⟨z,_⟩ |⟨e,z,_⟩
   ·exact z
   ·simp at z
   ·simp at z
 intro n
 induction n with
 |zero=>
  intro k m l key cell ok hn hk hb hl hp hi;obtain⟨k,rfl⟩:=bl hk;have:ok=false:=by cases ok<;>simp_all
  subst this;rw[f_.l0];exact Ok.pure (fin _ _ _ _ hi)
 |succ n ih=>
  intro k m l key cell ok hn hk hb hl hp hi;obtain⟨k,rfl⟩:=bl hk;rw[f_.l0];refine Ok.ite (λq=>?_) λq=>Ok.pure (by
   have:ok=false:=by simpa using q
   subst this;exact fin _ _ _ _ hi)
  obtain⟨p1,p2,p3⟩:=hp q;subst q;simp only[if_true] at hn;obtain⟨u1,u2,u3,u4⟩:=hi.cur J;have Ps:Ok (if bt m cell=true then some (m,l) else f_.l1 fuel goal g (g.m.W,g.m.H) m cell key l 0) (λr=>5*nG g r.1+r.2.length<=n/\r.2.length+5*nG g r.1<=9000/\(∀e∈r.2,r8 g e.item/\0<=e.key/\e.key+254*(nG g r.1:Int)<=254*1600)/\
   Hk r.2/\(∀c,bt r.1 c=true->Way g.m goal c (aP r.1 c)/\aQ g.m.W g.m.H c=aQ g.m.W g.m.H goal)/\(∀e∈r.2,Way g.m goal e.item e.key/\aQ g.m.W g.m.H e.item=aQ g.m.W g.m.H goal/\ ∀c,bt r.1 c=true->aP r.1 c<=e.key)/\(bt r.1 goal=true/\aP r.1 goal<=0)/\
   ∀c,bt r.1 c=true-> ∀d n,Nb g goal c d n->(bt r.1 n=true/\aP r.1 n<=aP r.1 c+rd g.m.C c)∨ ∃e∈r.2,e.item=n/\e.key<=aP r.1 c+rd g.m.C c):=by
   refine Ok.ite (λz=>Ok.pure ⟨by simp only;omega,hb,hl,hi.o,hi.w,hi.hl,?_,λc hc d n hn=>?_⟩) λz=>?_
   ·rcases hi.st with y |⟨_,y1,y2⟩
    ·exact y
    ·simp only;rw[y1] at z;have:=u4 goal z;exact⟨z,by omega⟩
   ·rcases hi.cl c hc d n hn with y |⟨_,y1,y2⟩ |y
    ·exact .inl y
    ·rw[y1] at z;have:=u4 n z;exact .inl ⟨z,by simp only;omega⟩
    ·exact .inr y
   have z:bt m cell=false:=by simpa using z
   have hu:=Y' (v:=key) p1.1 z;refine(ak5 h goal cell key m p1 p2 U 4 fuel l 0 aX (by rw[cI];omega) U U hi.o).mono λr hr=>?_
   obtain⟨e1,e2,e3,e4,e5,e6⟩:=hr;have eV:=Ha h p1.1;have vq:=EZ p1.1;have bD:fh g cell≠255:=p1.2;rw[e1];have:(4-(0:Int)).toNat=4:=rfl;have aZ: ∀c,bt (cF m cell key) c=true->c≠cell->bt m c=true/\aP (cF m cell key) c=aP m c:=λc hc yj=>by
    rw[Fz,ah (λy=>yj y.symm)] at hc;rw[rX,ah (λy=>yj y.symm)];exact⟨hc,J⟩
   have now:aP (cF m cell key) cell=key:=by rw[rX,ag J]
   have Xi:bt (cF m cell key) cell=true:=by rw[Fz,ag J]
   have rU: ∀c,bt m c=true->bt (cF m cell key) c=true/\aP (cF m cell key) c=aP m c:=λc hc=>by
    have yj:cell≠c:=λy=>by rw[<-y,z] at hc;simp at hc
    rw[Fz,ah yj,rX,ah yj];exact⟨hc,J⟩
   have low: ∀c,bt (cF m cell key) c=true->aP (cF m cell key) c<=key:=λc hc=>by
    by_cases y:c=cell
    ·rw[y,now];exact dU _
    ·obtain⟨a,b⟩:=aZ c hc y;rw[b];exact u4 c a
   refine⟨by omega,by omega,λe he=>?_,e3,λc hc=>?_,λe he=>?_,?_,λc hc d n hn=>?_⟩
   ·rcases e5 e he with y |⟨d,y1,y2⟩
    ·have:=hl e y;exact⟨this.1,this.2.1,by omega⟩
    ·rw[y2];exact⟨FC.2 y1.2.2.2.1,by omega,by omega⟩
   ·by_cases y:c=cell
    ·rw[y,now];exact⟨u1,u2⟩
    ·obtain⟨a,b⟩:=aZ c hc y;rw[b];exact hi.w c a
   ·rcases e5 e he with y |⟨d,y1,y2⟩
    ·have:=hi.hl e y;exact⟨this.1,this.2.1,λc hc=>Int.le_trans (low c hc) (u3 e y)⟩
    ·obtain⟨d0,d3,dn,Tc,ds⟩:=y1;obtain⟨t,t0,t3,tb⟩:=EN h.ok p1.1 Tc.1 d0 d3 dn.symm;refine⟨by rw[y2];exact Way.go t u1 t0 t3 tb Tc,ds,λc hc=>?_⟩
     have:=low c hc;rw[y2];omega
   ·rcases hi.st with⟨y1,y2⟩ |⟨_,y1,y2⟩
    ·obtain⟨a,b⟩:=rU goal y1;exact⟨a,by rw[b];exact y2⟩
    ·rw[<-y1];exact⟨Xi,by rw[now];exact y2⟩
   ·by_cases y:c=cell
    ·subst y;exact .inr ⟨_,e6 d n (hn.1) hn,J,by rw[now];exact dU _⟩
    ·obtain⟨a,b⟩:=aZ c hc y;rw[b];rcases hi.cl c a d n hn with⟨x1,x2⟩ |⟨_,x1,x2⟩ |⟨e,x1,x2,x3⟩
     ·obtain⟨a',b'⟩:=rU n x1;exact .inl ⟨a',by rw[b'];exact x2⟩
     ·rw[<-x1];exact .inl ⟨Xi,by rw[now];exact x2⟩
     ·exact .inr ⟨e,e4 e x1,x2,x3⟩
  refine Ps.bind λr hr=>?_
  obtain⟨h1,h2,h4,h5,h6,h7,h8,h9⟩:=hr;refine(air ⟨r.2⟩ (by simp only;omega) h5).bind λv hv=>?_
  obtain⟨hv,ho,Fj⟩:=hv;rcases hv with⟨e1,e2⟩ |⟨e1,e2,e3,e4,e5,e6⟩
  ·subst e2;simp only at e1;refine ih k r.1 [] 0 0 false bf U bf aX aX ⟨h6,by simp,by simp,λ_=>rfl,λj j1 j2=>by simp at j2;omega,.inl h8,λc hc d n hn=>?_⟩
   rcases h9 c hc d n hn with y |⟨e,y,_⟩
   ·exact .inl y
   ·rw[e1] at y;simp at y
  ·simp only at e1 e3 e4 e5 e6 Fj ho;have Bv:=dR (a:=r.2) (i:=0) U (by have:=List.length_pos_iff.2 e1;omega)
   have HD:=h4 _ Bv;have Lv:=h7 _ Bv;rw[<-e3] at HD Lv;refine ih k r.1 v.2.2.2.l v.1 v.2.1 v.2.2.1 (by rw[e2];simp;omega) U U (λe he=>h4 e (e5 e he)) (λ_=>HD) ⟨h6,λe he=>h7 e (e5 e he),λ_=>⟨Lv.1,Lv.2.1,λe he=>Fj e2 e (e5 e he),Lv.2.2⟩,by rw[e2];simp,ho,.inl h8,λc hc d n hn=>?_⟩
   rcases h9 c hc d n hn with y |⟨e,y1,y2,y3⟩
   ·exact .inl y
   ·rcases e6 e y1 with x |x
    ·rw[x,<-e3] at y2 y3;exact .inr (.inl ⟨e2,y2,y3⟩)
    ·exact .inr (.inr ⟨e,x,y2,y3⟩)
theorem ak3 (h:cQ g more) (hN:g.m.W*g.m.H<=1600) (f:ko) (M:dO) {goal:Int} (hg:bV g.m goal):Ok (f_.f f goal M g) (Gq g goal):=by
 unfold f_.f;refine Ok.eq (B0 g) (Ok.eq (sU h _) (Ok.ite (λq=>Ok.pure ⟨by simp[bt,cN],λz=>?_,by simp[bt,cN]⟩) λq=>?_))
 ·have q:fh g goal=255:=by simpa using q
  exact absurd q (FC.2 z).2
 have hu:nG g []<=1600:=by unfold nG;have:=ES (λc=>!bt ([]:List (Int×Int)) c) (g.m.W*g.m.H).toNat;omega
 refine(FI ⟨[]⟩ 0 goal aX).bind λr hr=>(FH r (by simp at hr;omega)).bind λv hv=>?_
 have ho:r8 g goal:=⟨hg,by simpa using q⟩
 have tc: ∀e∈r.l,e=⟨0,goal⟩:=λe he=>by simpa using(hr.2 e).1 he
 have hlen:r.l.length=1:=by simpa using hr.1
 rcases hv with⟨e1,e2⟩ |⟨e1,e2,e3,e4,e5,e6⟩
 ·rw[e1] at hlen;simp at hlen
 ·have h0:=tc _ (dR (a:=r.l) (i:=0) U U);rw[h0] at e3;simp only[cT.mk.injEq] at e3;have yp:v.2.2.2.l=[]:=List.length_eq_zero_iff.1 U;rw[yp,e3.1,e3.2,e2];exact ak4 h hN goal 9000 fuel [] [] 0 goal true bf (by rw[cI];omega) bf aX (λ_=>⟨ho,by omega,by omega⟩)
   ⟨by simp[bt,cN],by simp,λ_=>⟨Way.here (FC.1 ho),J,by simp,by simp[bt,cN]⟩,by simp,λj j1 j2=>by simp at j2;omega,.inr ⟨J,J,dU _⟩,by simp[bt,cN]⟩
theorem Zl (h:cQ g more) (hN:g.m.W*g.m.H<=1600) {goal:Int} (hg:bV g.m goal) {im:List (Int×Int)} (hw: ∀f M,f_.f f goal M g=some im):Gq g goal im:=by
 obtain⟨r,e,hr⟩:=ak3 h hN default default hg;rw[hw] at e;rw[Option.some.inj e];exact hr
end
theorem ahQ {w h s l d:Int} (hs:bE w h s) (l0:0<=l) (l1:l<(az w h s).1*(az w h s).2) (d0:0<=d) (d3:d<=3) {t:aJ} (hW:t.W=(az w h s).1) (hH:t.H=(az w h s).2)
 (hn:bQ w h (bB w h (cn w h s l) d)) (he:aQ w h (bB w h (cn w h s l) d)=s):0<=ei t l d:=by
 obtain⟨hc,e1,e2⟩:=Hc hs l0 l1;obtain⟨a1,a2,a3,a4,a5,a6⟩:=wE hs l0 l1;obtain⟨z1,z2,z3,z4⟩:=qw hs;obtain⟨y1,y2⟩:=YF hs;obtain⟨p1,p2,p3,p4⟩:=uQ hs;have Aa:d=0∨d=1∨d=2∨d=3:=U;rcases F3 hc d0 (by omega:d<=4) with⟨b1,_⟩ |⟨b1,b2,b3,b4,b5,b6,b7⟩
 ·rw[b1] at hn;have:=hn.2.1;omega
 have rT:=Eb b1;have vv:=qg (a:=(bq w h).1) (y:=bB w h (cn w h s l) d/w/16) rT.1 rT.2.1;have e:aQ w h (bB w h (cn w h s l) d)=bB w h (cn w h s l) d/w/16*(bq w h).1+bB w h (cn w h s l) d%w/16:=by unfold aQ;rw[ag b1]
 rw[<-e,b2,b3,e1,e2,he] at vv;rw[e1] at b4 b5;rw[e2] at b6 b7;obtain⟨k2,k1⟩:=vv;unfold ei;simp only[hW,hH];have hle:1<=l/(az w h s).1->(az w h s).1<=l:=λz=>by
  apply jL;intro y;have:=Int.ediv_eq_zero_of_lt l0 (b:=(az w h s).1) U;omega
 have af':1<=l%(az w h s).1->1<=l:=λz=>by
  apply jL;intro y;have:l=0:=U;rw[this] at z;simp at z
 unfold dX at k2 b4 b5;unfold dY at k1 b6 b7;rcases Aa with rfl |rfl |rfl |rfl<;>simp at k1 k2 b4 b5 b6 b7⊢
 ·rw[ag U];have:=hle U;omega
 ·rw[ag U];omega
 ·rw[ag U];omega
 ·rw[ag U];have:=af' U;omega
section
variable {g : bx} {more : Int} {goal : Int} {R : hJ} {s : Int}
theorem Yx (s:Int):((di g.m s).C.length:Int)=(az g.m.W g.m.H s).1*(az g.m.W g.m.H s).2:=by
 have hz:=xv g.m.W g.m.H s
 show((j4 g.m s ((az g.m.W g.m.H s).1*(az g.m.W g.m.H s).2).toNat).length:Int)=_
 rw[B9];omega
theorem Hb (h:cQ g more) (hs:bE g.m.W g.m.H s) {c:Int} (c0:0<=c) (c1:c<(di g.m s).C.length):bV g.m (cn g.m.W g.m.H s c)/\rd (di g.m s).C c=rd g.m.C (cn g.m.W g.m.H s c)/\aQ g.m.W g.m.H (cn g.m.W g.m.H s c)=s/\cD g.m.W g.m.H (cn g.m.W g.m.H s c)=c:=by
 rw[Yx] at c1;have hg:=zR hs c0 c1;refine⟨⟨hg.1,hg.2⟩,?_,FV hs c0 c1,ahe hs c0 c1⟩
 show rd (j4 g.m s _) c=_
 rw[Jo c0 (by have:=xv g.m.W g.m.H s;omega)]
theorem Oh (h:cQ g more) (hs:bE g.m.W g.m.H s) {c d:Int} (c0:0<=c) (c1:c<(di g.m s).C.length) (d0:0<=d) (d3:d<=3) (hn:0<=ei (di g.m s) c d):ei (di g.m s) c d<(di g.m s).C.length/\bB g.m.W g.m.H (cn g.m.W g.m.H s c) d=cn g.m.W g.m.H s (ei (di g.m s) c d):=by
 rw[Yx] at c1⊢;exact W9 hs c0 c1 d0 d3 J J hn
theorem YO (h:cQ g more) (hs:bE g.m.W g.m.H s) {l:List a_} {K k:Int} {D:List Int} (hD:po (di g.m s) l K D) (hl: ∀x∈l,Way g.m goal (cn g.m.W g.m.H s x.Cell) (x.Key+k)): ∀(n:Nat) (c:Int),0<=c->c<(di g.m s).C.length->rd D c≠cx->(rd D c).toNat<=n->Way g.m goal (cn g.m.W g.m.H s c) (rd D c+k):=by
 have ht:=BW h hs;intro n
 induction n with
 |zero=>
  intro c c0 c1 hc hn;obtain⟨a1,a2,a3,a4⟩:=hD.dv c c0 c1 hc;rcases a4 with⟨x,x1,x2,x3⟩ |⟨c',d,b0,b1,d0,d3,b2,b3,b4⟩
  ·rw[<-x3,<-x2];exact hl x x1
  ·have:=(ht.2 c' b0 b1).1;have:=(hD.dv c' b0 b1 b2).1;omega
 |succ n ih=>
  intro c c0 c1 hc hn;obtain⟨a1,a2,a3,a4⟩:=hD.dv c c0 c1 hc;rcases a4 with⟨x,x1,x2,x3⟩ |⟨c',d,b0,b1,d0,d3,b2,b3,b4⟩
  ·rw[<-x3,<-x2];exact hl x x1
  ·have eV:=(ht.2 c' b0 b1).1;have hw:=ih c' b0 b1 b2 (by have:=(hD.dv c' b0 b1 b2).1;omega)
   obtain⟨e1,e2⟩:=Oh h hs b0 b1 d0 d3 (by rw[b3];exact c0)
   rw[b3] at e2;obtain⟨f1,f2,_,_⟩:=Hb h hs b0 b1;obtain⟨g1,g2,_,_⟩:=Hb h hs c0 c1;obtain⟨t,t0,t3,tb⟩:=EN h.ok f1 g1 d0 d3 e2;rw[<-b4,f2];have:=Way.go t hw t0 t3 tb ⟨g1,by rw[<-g2];exact a3⟩
   rw[show rd D c'+rd g.m.C (cn g.m.W g.m.H s c')+k=rd D c'+k+rd g.m.C (cn g.m.W g.m.H s c') by omega]
   exact this
theorem ajh (h:cQ g more) (hN:g.m.W*g.m.H<=1600) (hR:qD g R) (hg:bV g.m R.goal): ∀(n:Nat) (c:Int),0<=c->c<R.aR.length->rd R.aR c≠dN->(rd R.aR c).toNat<=n->Way g.m R.goal c (rd R.aR c):=by
 obtain⟨_,im,hw,hd⟩:=hR;have hx:=Zl h hN hg hw.1;intro n
 induction n with
 |zero=>
  intro c c0 c1 hc hn;obtain⟨a1,a2,_,hp⟩:=hd.dv c c0 c1 hc;rcases hp with⟨p1,p2,p3⟩ |⟨b,e,p1,p2,p3,p4,p5⟩
  ·rw[<-p3];exact hx.w c p2
  ·have:=(GY h p1 p3).2.2.1;have hb:=uB h hd.len_ p1;have:=(hd.dv b hb.1 hb.2 p2).2.1;omega
 |succ n ih=>
  intro c c0 c1 hc hn;obtain⟨a1,a2,_,hp⟩:=hd.dv c c0 c1 hc;rcases hp with⟨p1,p2,p3⟩ |⟨b,e,p1,p2,p3,p4,p5⟩
  ·rw[<-p3];exact hx.w c p2
  ·have hk:=(GY h p1 p3).2.2.1;have hb:=uB h hd.len_ p1;have Vt:=(hd.dv b hb.1 hb.2 p2).2.1;have We:=ih b hb.1 hb.2 p2 U;have hle:=(hd.rel b p1 p2 e p3).2;rw[p4] at hle;have ev:rd R.aR c=rd R.aR b+e.kP:=U;have O':=(yM p1).2;have hbs:=o0 (ir h.ok O');rw[ev];rcases p3 with⟨q1,q2,q3,T,q4,q5⟩ |⟨q1,q2,⟨d,d0,d3,q3⟩,q4⟩
   ·have rN:=(qU q1).2.1;have kH:=(qU q1).2.2.2;have eU:=tG h rN;rw[kH] at eU;have:=YO (k:=rd R.aR b) h hbs q4 (λx hx=>by
     simp only[nK,tZ,or_false] at hx;subst hx;simp only;rw[pX (ir h.ok O'),Int.zero_add];exact We) _ _ eU.1 eU.2.1 (by rw[<-q5];exact q3) (l7 _)
    have eg:=pX (ir h.ok rN);rw[kH] at eg;rw[eg,<-q5,p4] at this;rw[Int.add_comm];exact this
   ·have rN:=yM q1;rw[p4] at rN q3;obtain⟨t,t0,t3,tb⟩:=EN h.ok O' rN.2 d0 d3 q3.symm;rw[q4];exact Way.go t We t0 t3 tb (rj.1 rN.1)
theorem ajQ (h:cQ g more) (hs:bE g.m.W g.m.H s) {l:List a_} {K:Int} {D:List Int} (hD:po (di g.m s) l K D): ∀(n:Nat) (c:Int),0<=c->c<(di g.m s).C.length->rd D c≠cx->(rd D c).toNat<=n-> ∃x∈l,∀T,zw (di g.m s) x.Cell T->rd T c≠cx/\rd T c+x.Key<=rd D c:=by
 have ht:=BW h hs;have self: ∀(c:Int) (x:a_),x∈l->x.Cell=c->x.Key=rd D c-> ∃x∈l,∀T,zw (di g.m s) x.Cell T->rd T c≠cx/\rd T c+x.Key<=rd D c:=λc x x1 x2 x3=>
  ⟨x,x1,λT hT=>by
    obtain⟨a,b⟩:=hT.sd ⟨x.Cell,4,0⟩ aX;simp only at a b;rw[x2] at a b;exact⟨a,by omega⟩⟩
 intro n
 induction n with
 |zero=>
  intro c c0 c1 hc hn;obtain⟨a1,a2,a3,a4⟩:=hD.dv c c0 c1 hc;rcases a4 with⟨x,x1,x2,x3⟩ |⟨c',d,b0,b1,d0,d3,b2,b3,b4⟩
  ·exact self c x x1 x2 x3
  ·have:=(ht.2 c' b0 b1).1;have:=(hD.dv c' b0 b1 b2).1;omega
 |succ n ih=>
  intro c c0 c1 hc hn;obtain⟨a1,a2,a3,a4⟩:=hD.dv c c0 c1 hc;rcases a4 with⟨x,x1,x2,x3⟩ |⟨c',d,b0,b1,d0,d3,b2,b3,b4⟩
  ·exact self c x x1 x2 x3
  ·have eV:=(ht.2 c' b0 b1).1;obtain⟨x,x1,x2⟩:=ih c' b0 b1 b2 (by have:=(hD.dv c' b0 b1 b2).1;omega)
   refine⟨x,x1,λT hT=>?_⟩
   obtain⟨y1,y2⟩:=x2 T hT;obtain⟨z1,z2⟩:=hT.nb c' d b0 b1 y1 d0 d3 (by rw[b3];exact c0) (by rw[b3];exact a3)
   rw[b3] at z1 z2;exact⟨z1,by omega⟩
theorem ak0 (h:cQ g more) (hg:bV g.m goal) {im:List (Int×Int)} (hx:Gq g goal im) (ho:pO g.m goal) {T:List Int} (hT:zw (di g.m (aQ g.m.W g.m.H goal)) (cD g.m.W g.m.H goal) T): ∀(n:Nat) (c:Int),0<=c->c<(di g.m (aQ g.m.W g.m.H goal)).C.length->rd T c≠cx->(rd T c).toNat<=n->bt im (cn g.m.W g.m.H (aQ g.m.W g.m.H goal) c)=true/\aP im (cn g.m.W g.m.H (aQ g.m.W g.m.H goal) c)<=rd T c:=by
 have hs:=o0 (ir h.ok hg);have ht:=BW h hs;have eg:=pX (ir h.ok hg);have self: ∀c:Int,(∃x∈[(⟨cD g.m.W g.m.H goal,4,0⟩:a_)],x.Cell=c/\x.Key=rd T c)->bt im (cn g.m.W g.m.H (aQ g.m.W g.m.H goal) c)=true/\aP im (cn g.m.W g.m.H (aQ g.m.W g.m.H goal) c)<=rd T c:=λc ⟨x,x1,x2,x3⟩=>by
  simp only[nK,tZ,or_false] at x1;subst x1;simp only at x2 x3;subst x2;rw[eg];have:=hx.st ho;exact⟨this.1,by omega⟩
 intro n
 induction n with
 |zero=>
  intro c c0 c1 hc hn;obtain⟨a1,a2,a3,a4⟩:=hT.dv c c0 c1 hc;rcases a4 with z |⟨c',d,b0,b1,d0,d3,b2,b3,b4⟩
  ·exact self c z
  ·have:=(ht.2 c' b0 b1).1;have:=(hT.dv c' b0 b1 b2).1;omega
 |succ n ih=>
  intro c c0 c1 hc hn;obtain⟨a1,a2,a3,a4⟩:=hT.dv c c0 c1 hc;rcases a4 with z |⟨c',d,b0,b1,d0,d3,b2,b3,b4⟩
  ·exact self c z
  ·have eV:=(ht.2 c' b0 b1).1;obtain⟨i1,i2⟩:=ih c' b0 b1 b2 (by have:=(hT.dv c' b0 b1 b2).1;omega)
   obtain⟨e1,e2⟩:=Oh h hs b0 b1 d0 d3 (by rw[b3];exact c0)
   rw[b3] at e2;obtain⟨_,f2,_,_⟩:=Hb h hs b0 b1;obtain⟨g1,g2,g3,_⟩:=Hb h hs c0 c1;obtain⟨j1,j2⟩:=hx.cl _ i1 d _ ⟨d0,d3,e2.symm,⟨g1,by rw[<-g2];exact a3⟩,g3⟩
   exact⟨j1,by rw[<-f2] at j2;omega⟩
def EV (g:bx) (R:hJ) (s:Int) (D:List Int):Prop:= ∃l K,(∀y,y∈l↔we g R s y)/\po (di g.m s) l K D
theorem Xg (h:cQ g more) {n d:Int} (hn:pO g.m n) (ho:0<=fp g.m.W g.m.H n d):node g.m n:=by
 have hc:=ir h.ok hn.1;have bZ:=Ak hc;have hs:=o0 hc;have oJ:=IV ho;unfold node bO;rw[List.mem_filter];refine⟨?_,rj.2 hn⟩;unfold q_ vH;rw[List.mem_map];refine⟨(cD g.m.W g.m.H n).toNat,?_,by rw[show(((cD g.m.W g.m.H n).toNat:Nat):Int)=cD g.m.W g.m.H n by omega,pX hc]⟩
 rw[List.mem_filter,List.mem_range];refine⟨by omega,?_⟩
 unfold BT;rw[show(((cD g.m.W g.m.H n).toNat:Nat):Int)=cD g.m.W g.m.H n by omega,pX hc]
 have hd:d=0∨d=1∨d=2∨d=3:=by have:=oJ.2.1;have:=oJ.2.2.1;omega
 simp only[zA];rcases hd with rfl |rfl |rfl |rfl<;>simp[ho]
theorem Xt {w h c d:Int} (h0:0<=bB w h c d) (bD:aQ w h (bB w h c d)≠aQ w h c):fp w h c d=bB w h c d:=by
 unfold fp;rw[ah];rintro(z |z)
 ·omega
 ·exact bD z
theorem ah2 (h:cQ g more) (hN:g.m.W*g.m.H<=1600) (hR:qD g R) (hg:bV g.m R.goal) {c:Int} (hc:node g.m c) {D:List Int} (hD:EV g R (aQ g.m.W g.m.H c) D) (bD:rd D (cD g.m.W g.m.H c)≠cx):rd R.aR c≠dN/\rd R.aR c<=rd D (cD g.m.W g.m.H c):=by
 obtain⟨l,K,hl,hS⟩:=hD;have KW:=hR;obtain⟨_,im,hw,hd⟩:=hR;have hx:=Zl h hN hg hw.1;have rN:=(yM hc).2;have kH:=o0 (ir h.ok rN);have ht:=BW h kH;have eU:=tG h rN;obtain⟨x,x1,x2⟩:=ajQ h kH hS _ _ eU.1 eU.2.1 bD (l7 _);have Y2: ∀q:Int,pO g.m q->aQ g.m.W g.m.H q=aQ g.m.W g.m.H c-> ∃T,zw (di g.m (aQ g.m.W g.m.H c)) (cD g.m.W g.m.H q) T:=λq hq e=>by
  have yv:=tG h hq.1;rw[e,EZ hq.1] at yv;obtain⟨r,_,hr⟩:=Y5 ht yv.1 yv.2.1 (by rw[yv.2.2];exact hq.2)
  exact⟨r.1,hr.1⟩
 rcases(hl x).1 x1 with⟨q,hq,e,he,C_,ex⟩ |⟨e1,e2,ex⟩
 ·obtain⟨q1,q2,_,q4⟩:=qU hq;obtain⟨d,d0,d3,o1,eE⟩:=GZ he;have hqo:=rj.1 q1;have hyo:=rj.1 o1;have oJ:=IV (w:=g.m.W) (h:=g.m.H) (c:=q) (side:=d) hyo.1.1;subst eE;simp only at C_ ex;obtain⟨v1,v2,v3,v4,_⟩:=Kf hN KW C_;have hlen:=hd.len_;have hny:=(hd.dv _ v1.1 (by have:=v1.2;omega) v2).1
  obtain⟨t,t0,t3,tb⟩:=EN h.ok q2 v1 d0 d3 oJ.2.2.2.2.1.symm;have VR:node g.m q:=by unfold node;rw[q4];exact hq
  have yl:Comes g.m (fp g.m.W g.m.H q d) ⟨q,rd g.m.C (fp g.m.W g.m.H q d)⟩:= .inr ⟨VR,λz=>oJ.2.2.2.2.2 z.symm,⟨t,t0,t3,tb.symm⟩,J⟩
  obtain⟨r1,r2⟩:=hd.rel _ hny v2 _ yl;simp only at r1 r2;obtain⟨T,hT⟩:=Y2 q hqo q4;obtain⟨y1,y2⟩:=x2 T (by rw[ex];exact hT)
  have hTc:=(hT.dv _ eU.1 eU.2.1 y1).1;rw[ex] at y2;simp only at y2;rw[v3] at y2
  by_cases z:c=q
  ·rw[z] at y2 hTc⊢;exact⟨r1,by omega⟩
  ·have afW:Comes g.m q ⟨c,rd T (cD g.m.W g.m.H c)⟩:= .inl ⟨by rw[q4];exact hc,z,y1,T,by rw[q4];exact hT,J⟩
   obtain⟨w1,w2⟩:=hd.rel q VR r1 _ afW;simp only at w1 w2;exact⟨w1,by omega⟩
 ·have VJ:pO g.m R.goal:=FC.1 ⟨hg,e2⟩;rw[<-e1] at eU x2 kH;obtain⟨T,hT⟩:=Y2 R.goal VJ e1;rw[<-e1] at hT;obtain⟨y1,y2⟩:=x2 T (by rw[ex];exact hT)
  obtain⟨i1,i2⟩:=ak0 h hg hx VJ hT _ _ eU.1 eU.2.1 y1 (l7 _);have eg:=pX (ir h.ok rN);rw[<-e1] at eg;rw[eg] at i1 i2;obtain⟨w1,w2⟩:=hd.sd c (by rw[e1];exact hc) i1
  rw[ex] at y2;simp only at y2;exact⟨w1,by omega⟩
theorem ac' (h:cQ g more) (hN:g.m.W*g.m.H<=1600) (hR:qD g R) (hg:bV g.m R.goal) (hex: ∀s,bE g.m.W g.m.H s-> ∃D,EV g R s D) {c k:Int} (hw:Way g.m R.goal c k): ∀D,EV g R (aQ g.m.W g.m.H c) D->rd D (cD g.m.W g.m.H c)≠cx/\rd D (cD g.m.W g.m.H c)<=k:=by
 induction hw with
 |here ho=>
  rintro D ⟨l,K,hl,hS⟩;have:=hS.sd ⟨cD g.m.W g.m.H R.goal,4,0⟩ ((hl _).2 (.inr ⟨J,(FC.2 ho).2,J⟩));exact this
 | @go c k n side hw s0 s3 iq oI ih=>
  intro D hD;have wR:=MM hw;have jD:=ir h.ok oI.1;have yj:=ir h.ok wR.1;obtain⟨t,t0,t3,tb⟩:=EN h.ok oI.1 wR.1 s0 s3 iq
  by_cases z:aQ g.m.W g.m.H c=aQ g.m.W g.m.H n
  ·obtain⟨i1,i2⟩:=ih D (by rw[z];exact hD)
   obtain⟨l,K,hl,hS⟩:=hD;have hs:=o0 yj;have eU:=tG h wR.1;have Lo:=tG h oI.1;have bZ:=Ak yj;have N4:=pX yj;have Pw:=ahQ (t:=di g.m (aQ g.m.W g.m.H c)) hs bZ.1 bZ.2 t0 t3 J J (by rw[N4,tb];exact jD) (by rw[N4,tb];exact z.symm)
   obtain⟨e1,e2⟩:=Oh h hs eU.1 eU.2.1 t0 t3 Pw;rw[N4,tb] at e2;have Tk:ei (di g.m (aQ g.m.W g.m.H c)) (cD g.m.W g.m.H c) t=cD g.m.W g.m.H n:=by
    rw[e2,(Hb h hs Pw e1).2.2.2]
   have hcw:rd (di g.m (aQ g.m.W g.m.H c)).C (cD g.m.W g.m.H n)≠255:=by
    rw[z,Lo.2.2,EZ oI.1];exact oI.2
   rw[<-z] at hS;obtain⟨j1,j2⟩:=hS.nb _ t eU.1 eU.2.1 i1 t0 t3 Pw (by rw[Tk];exact hcw)
   rw[Tk] at j1 j2;rw[eU.2.2,EZ wR.1] at j2;exact⟨j1,by omega⟩
  ·have Qp:fp g.m.W g.m.H n side=c:=by rw[Xt (by rw[iq];exact wR.1.1) (by rw[iq];exact z),iq]
   have ov2:fp g.m.W g.m.H c t=n:=by rw[Xt (by rw[tb];exact oI.1.1) (by rw[tb];exact λy=>z y.symm),tb]
   have yu:=Xg h oI (d:=side) (by rw[Qp];exact wR.1.1)
   have Lm:=Xg h wR (d:=t) (by rw[ov2];exact oI.1.1)
   obtain⟨D2,Ue⟩:=hex _ (o0 yj);obtain⟨i1,i2⟩:=ih D2 Ue;obtain⟨r1,r2⟩:=ah2 h hN hR hg Lm Ue i1;obtain⟨l,K,hl,hS⟩:=hD;have eA:tQ g R c=rd R.aR c:=by unfold tQ;rw[ag ⟨wR.1,r1⟩]
   have hA:tQ g R c≠cx:=by
    obtain⟨_,im,hw',hd⟩:=hR;have z_:=hd.len_;have:=(hd.dv c wR.1.1 (by have:=wR.1.2;omega) r1).2.2.1
    have h1:RB=104538400:=rfl;have h2:cx=1099511627776:=rfl;rw[eA];omega
   have vq:(⟨c,rd g.m.C c⟩:eJ)∈uI g.m n:=by
    unfold uI xo;rw[ag (rj.2 oI),List.mem_map];refine⟨side.toNat,List.mem_filter.2 ⟨List.mem_range.2 U,?_⟩,?_⟩
    ·rw[show((side.toNat:Nat):Int)=side by omega,Qp];exact rj.2 wR
    ·rw[show((side.toNat:Nat):Int)=side by omega,Qp]
   have:=hS.sd _ ((hl _).2 (.inl ⟨n,yu,_,vq,hA,J⟩));simp only at this;rw[eA] at this;exact⟨this.1,by omega⟩
theorem ada (h:cQ g more) (hN:g.m.W*g.m.H<=1600) (hR:qD g R) (hg:bV g.m R.goal) {c:Int} (hc:bV g.m c) {D:List Int} (hD:EV g R (aQ g.m.W g.m.H c) D) (bD:rd D (cD g.m.W g.m.H c)≠cx):Way g.m R.goal c (rd D (cD g.m.W g.m.H c)):=by
 obtain⟨l,K,hl,hS⟩:=hD;have hs:=o0 (ir h.ok hc);have eU:=tG h hc;have:=YO (goal:=R.goal) (k:=0) h hs hS (λx hx=>by
  rw[Int.add_zero];rcases(hl x).1 hx with⟨q,hq,e,he,C_,ex⟩ |⟨e1,e2,ex⟩
  ·obtain⟨q1,q2,_,q4⟩:=qU hq;obtain⟨d,d0,d3,o1,eE⟩:=GZ he;have oJ:=IV (w:=g.m.W) (h:=g.m.H) (c:=q) (side:=d) (rj.1 o1).1.1;subst eE;simp only at C_ ex;obtain⟨v1,v2,v3,v4,_⟩:=Kf hN hR C_;have hlen:=hR.2.choose_spec.2.len_;have hw:=ajh h hN hR hg _ _ v1.1 (by have:=v1.2;omega) v2 (l7 _)
   rw[ex];simp only;have eg:=pX (ir h.ok q2);rw[q4] at eg;rw[eg,v3,Int.add_comm];exact Way.go d hw d0 d3 oJ.2.2.2.2.1.symm (rj.1 q1)
  ·rw[ex];simp only;rw[<-e1,pX (ir h.ok hg)];exact Way.here (FC.1 ⟨hg,e2⟩)) _ _ eU.1 eU.2.1 bD (l7 _)
 rw[pX (ir h.ok hc),Int.add_zero] at this;exact this
end
section
variable {S : bJ} {k most b : Int} {L : List aI}
structure RH (g:bx) (goal x d r:Int):Prop where
 le: ∀n,Way g.m goal x n->d≠cx/\d<=n
 ML:d≠cx->Way g.m goal x d
 no:d=cx->r=5
theorem adg {n:cw} {ord:List Int} {c:d_} {goal s:Int} {r:gk×Er×cw} (eV:Rv c b) (hg:bV c.ay.m goal) (hs:bE c.ay.m.W c.ay.m.H s) (h:Cp n k b ord c goal s r): ∃R l,qD c.ay R/\R.goal=goal/\(∀y,y∈l↔we c.ay R s y)/\l.length<=1025/\vR (di c.ay.m s) l KF r.1/\ ∀x,bV c.ay.m x->aQ c.ay.m.W c.ay.m.H x=s->RH c.ay goal x (rd r.1.fi (cD c.ay.m.W c.ay.m.H x)) (rd r.1.cJ (cD c.ay.m.W c.ay.m.H x)):=by
 obtain⟨R,l,_,_,f1,f2,f3,f4,_,f6,_⟩:=h.C2;have hG:=eV.gs;have hN:=eV.kG;have Uj:KF=104603678:=rfl;have Ph:bV c.ay.m R.goal:=by rw[f2];exact hg
 have Ld:EV c.ay R s r.1.fi:=⟨l,KF,f4,f6.aR⟩;have hex: ∀s,bE c.ay.m.W c.ay.m.H s-> ∃D,EV c.ay R s D:=λs hs=>by
  obtain⟨l,_,l1,l2,_⟩:=Wr hG hN f1 s;obtain⟨f,_,_,hf⟩:=Tv (K:=KF) (BW hG hs) (l:=l) U U (λx hx=>Yz hG hN f1 Ph hs ((l2 x).1 hx));exact⟨f.1.fi,l,KF,l2,hf.aR⟩
 refine⟨R,l,f1,f2,f4,f3,f6,λx hx es=>⟨λn hn=>?_,λbD=>?_,λhe=>?_⟩⟩
 ·rw[<-f2] at hn;exact ac' hG hN f1 Ph hex hn _ (by rw[es];exact Ld)
 ·rw[<-f2];exact ada hG hN f1 Ph hx (by rw[es];exact Ld) bD
 ·have eU:=tG hG hx;rw[es] at eU;rw[f6.dir _ eU.1 eU.2.1];unfold ya;rw[ag he]
theorem RI (h:jz S k most b L) (hb:0<=b/\b<=60000000000) {c:d_} (hc:S.nav.core=some c) {goal x:Int} (hg:bV c.ay.m goal) (hx:bV c.ay.m x):
 ∃d r S',sw.f S goal x=some (d,r,true,S')/\(∃L',jz S' k most (b+500000) L')/\(∃c',S'.nav.core=some c'/\c'.ay=c.ay)/\RH c.ay goal x d r:=by
 obtain⟨ord,hn⟩:=h.nav;have eV:=(hn.core c hc).1;have Ff:=eV.kG;have hA:=hg.2;have hB:=hx.2;have ho:qB ⟨6,goal,x,[]⟩:=⟨by simp,⟨hg.1,by simp only;omega⟩,⟨hx.1,by simp only;omega⟩,λ_=>rfl,by simp,by simp,by simp,by simp⟩
 obtain⟨⟨a,S'⟩,e,L',h1,_⟩:=MS h hb ho;obtain⟨v,ev,hv⟩:=Xd hn ⟨hb.1,by omega⟩ hc goal x
 rcases hv with⟨_,_,v3,f,v4,v5,v6⟩ |⟨z,_⟩
 rotate_left
 ·exact absurd ⟨hg,hx⟩ z
 obtain⟨_,c2,g2,g3,_⟩:=Kx v4;simp only at g2;obtain⟨R,l,_,_,_,_,_,hq⟩:=adg eV hg (o0 (ir eV.gs.ok hx)) v4;have hq:=hq x hx J;simp only at hq;rw[<-v5,<-v6] at hq;rcases h.cr with⟨n1,_⟩ |⟨c1,C,p1,p2,_⟩
 ·rw[hc] at n1;simp at n1
 have key:tL.f S ⟨6,goal,x,[]⟩ a0=some (Er.nil,⟨S.most,v.2.2.2,S.eT⟩,⟨0,v.1,v.2.1,-1,[],[],⟨0,0,0,0,0,0⟩⟩):=by
  have ec:rk.f S ⟨6,goal,x,[]⟩=some Er.nil:=by
   unfold rk.f;rw[ah aX,ah aX]
  have eq:vM.f S a0 goal x=some (Er.nil,⟨S.most,v.2.2.2,S.eT⟩,⟨0,v.1,v.2.1,-1,[],[],⟨0,0,0,0,0,0⟩⟩):=by
   unfold vM.f;rw[ev,aD,v3];rfl
  have eo:(dA S.eT (if((cR.mk 6 goal x []).Kind !=1)=true then(some ((cR.mk 6 goal x []).Kind !=8)) else(some false)) (λx6=>some false))=some false:=by rw[p2];rfl
  unfold tL.f;rw[ah aX,Qn ho aX,aD,aD,ah aX,eo,aD,ah aX,ec,aD,ah (by simp[Er.isNil]),ah aX,ah aX,ah aX,ah aX,ah aX,ah aX,ag aX,eq];rfl
 have e':=e;unfold jZ.f at e;have ea:jn.mk 0 0 5 (-1) ([]:List fw) ([]:List Int) (gD.mk 0 0 0 0 0 0)=a0:=rfl;rw[ea,key,aD,ah (by simp[Er.isNil])] at e
 obtain⟨st,_,e⟩:=Option.bind_eq_some_iff.1 e;simp only[Option.some.injEq,Prod.mk.injEq] at e;obtain⟨e1,e2⟩:=e;refine⟨v.1,v.2.1,S',?_,⟨L',h1⟩,⟨c2,by rw[<-e2];exact g2,g3⟩,hq⟩
 unfold sw.f;rw[e',aD,<-e1];rfl
end
theorem Zi {m:aJ} {t u c k s:Int} (hw:Way m t c k) (s0:0<=s) (s3:s<=3) (hs:bB m.W m.H t s=u) (hu:pO m u):Way m u c (k+rd m.C u):=by
 induction hw with
 |here ho=>
  have:=Way.go s (Way.here hu) s0 s3 hs ho;exact this
 | @go c' k' n s' h1 a0 a3 iq ho ih=>
  have:=Way.go s' ih a0 a3 iq ho;have e:k'+rd m.C u+rd m.C c'=k'+rd m.C c'+rd m.C u:=U;rw[e] at this;exact this
theorem Zk {m:aJ} (hm:rC m) {t c k:Int} (hw:Way m t c k):Way m c t (k+rd m.C c-rd m.C t):=by
 induction hw with
 |here ho=>
  have e:0+rd m.C t-rd m.C t=0:=U;rw[e];exact Way.here ho
 | @go c' k' n s' h1 a0 a3 iq ho ih=>
  obtain⟨s,s0,s3,e⟩:=EN hm ho.1 (MM h1).1 a0 a3 iq;have:=Zi ih s0 s3 e ho;have e:k'+rd m.C c'-rd m.C t+rd m.C n=k'+rd m.C c'+rd m.C n-rd m.C t:=U;rw[e] at this;exact this
theorem akX {S:bJ} {k most b:Int} {L:List aI} (h:jz S k most b L) (hb:0<=b/\b<=50000000000) {c:d_} (hc:S.nav.core=some c) {f t nq:Int} (hf:bV c.ay.m f) (ht:bV c.ay.m t) (p0:0<=nq/\nq<=1000000) (hw:pO c.ay.m f->Way c.ay.m t f nq):
 ((sw.f S t f).bind λcP=>(sw.f cP.2.2.2 f t).bind λv17=>if((!cP.2.2.1)||(!v17.2.2.1))=true then(some false) else(if(0<=f/\f<(aa c.ay.m.C:Int)) then(if((rd c.ay.m.C f)==255)=true then((zb.f).bind λfq=>some (((fq&&(cP.1==1099511627776))&&(cP.2.1==5))&&(v17.1==1099511627776))) else(((zb.f).bind λv21=>if v21=true then(if cP.1<=nq then(if cP.1≥0 then(if v17.1<1099511627776 then(if(0<=t/\t<(aa c.ay.m.C:Int)) then(some ((af (cP.1+(af (rd c.ay.m.C f))))==(af (v17.1+(af (rd c.ay.m.C t)))))) else none) else(some false)) else(some false)) else(some false)) else(some false)).bind λdh=>some dh)) else none))=some true:=by
 have hI:cx=1099511627776:=rfl;obtain⟨ord,hn⟩:=h.nav;have hG:=(hn.core c hc).1.gs;have E5:=S5 hG;have hl:=hG.ok.2.1;obtain⟨d,r,S1,e1,⟨L1,h1⟩,⟨c1,k1,k2⟩,q1⟩:=RI h ⟨hb.1,by omega⟩ hc ht hf
 obtain⟨e,r',S2,e2,_,_,q2⟩:=RI h1 ⟨by omega,by omega⟩ k1 (goal:=f) (x:=t) (by rw[k2];exact hf) (by rw[k2];exact ht)
 rw[k2] at q2;rw[e1,aD];simp only;rw[e2,aD,ah aX,ag ⟨hf.1,by have:=hf.2;omega⟩]
 simp only
 by_cases z:rd c.ay.m.C f=255
 ·have Xe:d=cx:=jL λy=>(MM (q1.ML y)).2 z;have no2:e=cx:=jL λy=>(akW (q2.ML y)).2 z;rw[ag (by simpa using z),Sr,aD,q1.no Xe,Xe,no2];rfl
 ·have HH:pO c.ay.m f:=⟨hf,z⟩;have hw:=hw HH;obtain⟨a1,a2⟩:=q1.le _ hw;have Wf:=q1.ML a1;obtain⟨b1,b2⟩:=q2.le _ (Zk hG.ok Wf);have Wg:=q2.ML b1;obtain⟨_,a3⟩:=q1.le _ (Zk hG.ok Wg);have d0:=Zj E5 Wf;have e0:=Zj E5 Wg;have cf:=E5 f hf;have ct:=E5 t ht;rw[ah (by simpa using z),Sr,aD,ag J,ag a2,ag U,ag U,ag ⟨ht.1,by have:=ht.2;omega⟩,wi (x:=rd c.ay.m.C f) U U,wi (x:=rd c.ay.m.C t) U U,wi (x:=d+rd c.ay.m.C f) U U,wi (x:=e+rd c.ay.m.C t) U U,show d+rd c.ay.m.C f=e+rd c.ay.m.C t by omega]
  simp
theorem akY {S:bJ} {k most b:Int} {L:List aI} (h:jz S k most b L) (hb:0<=b/\b<=50000000000) {c:d_} (hc:S.nav.core=some c) {f:Int} (hf:bV c.ay.m f) {steps:List Int} (iq: ∀y∈steps,tl y): ∀(n q:Nat) (t nq i:Int),(80-i).toNat<=n->n<q->0<=i->bV c.ay.m t->0<=nq->nq<=255*i->i<=80->(pO c.ay.m f->Way c.ay.m t f nq)->oe.l0 q steps S c.ay.m f t nq i=some true:=by
 obtain⟨ord,hn⟩:=h.nav;have hG:=(hn.core c hc).1.gs;have E5:=S5 hG;have hl:=hG.ok.2.1;have fin: ∀(q:Nat) (t nq i:Int),¬(i<steps.length/\i<80)->bV c.ay.m t->0<=nq->nq<=255*i->i<=80->(pO c.ay.m f->Way c.ay.m t f nq)->oe.l0 (q+1) steps S c.ay.m f t nq i=some true:=λq t nq i hi ht p0 p1 i8 hw=>by
  rw[oe.l0,ah (by simpa using hi)]
  exact akX h hb hc hf ht ⟨p0,by omega⟩ hw
 intro n
 induction n with
 |zero=>
  intro q t nq i hn hq i0 ht p0 p1 i8 hw;obtain⟨q,rfl⟩:=bl hq;exact fin q t nq i U ht p0 p1 i8 hw
 |succ n ih=>
  intro q t nq i hn hq i0 ht p0 p1 i8 hw;obtain⟨q,rfl⟩:=bl hq
  by_cases z:i<steps.length/\i<80
  ·obtain⟨s,es,s0,s3⟩:=vQ (n:=rd steps i) (lo:=0) (hi:=3) U U U;rw[oe.l0,ag (by simpa using z),ag ⟨i0,z.1⟩,es,aD,ajm,aD]
   by_cases y:0<=bB c.ay.m.W c.ay.m.H t s/\rd c.ay.m.C (bB c.ay.m.W c.ay.m.H t s)≠255
   ·have yo:bV c.ay.m (bB c.ay.m.W c.ay.m.H t s):=Mv U;have eV:=E5 _ yo;rw[ag y.1,ag ⟨yo.1,by have:=yo.2;omega⟩,aD,ag (by simpa using y.2),ag ⟨yo.1,by have:=yo.2;omega⟩,wi (x:=rd c.ay.m.C (bB c.ay.m.W c.ay.m.H t s)) U U,wi (x:=nq+rd c.ay.m.C (bB c.ay.m.W c.ay.m.H t s)) U U,wi (x:=i+1) U U]
    exact ih q _ _ (i+1) U U U yo U U U λho=>Zi (hw ho) s0 s3 J ⟨yo,y.2⟩
   ·have ec:(if bB c.ay.m.W c.ay.m.H t s≥0 then(if(0<=bB c.ay.m.W c.ay.m.H t s/\bB c.ay.m.W c.ay.m.H t s<(aa c.ay.m.C:Int)) then(some ((rd c.ay.m.C (bB c.ay.m.W c.ay.m.H t s))!=255)) else none) else(some false))=some false:=by
     by_cases x:0<=bB c.ay.m.W c.ay.m.H t s
     ·have yo:bV c.ay.m (bB c.ay.m.W c.ay.m.H t s):=Mv U;have:rd c.ay.m.C (bB c.ay.m.W c.ay.m.H t s)=255:=jL λv=>y ⟨x,v⟩
      rw[ag x,ag ⟨yo.1,by have:=yo.2;omega⟩,this];rfl
     ·rw[ah x]
    rw[ec,aD,ah aX,wi (x:=i+1) U U];exact ih q t nq (i+1) U U U ht p0 U U hw
  ·exact fin q t nq i z ht p0 p1 i8 hw
theorem Z0:oe.Pure:=by
 intro w h p3 l cell steps _ _ hp3 _ _ iq _ _ _;unfold oe.f;obtain⟨r,er⟩:=ac9 l (n:=20) U;obtain⟨S,L,eS,hS,c,hc⟩:=aio (k:=3) (most:=5) U U U U w h hp3 (aB l 0 r);obtain⟨ord,hn⟩:=hS.nav;have hG:=(hn.core c hc).1.gs;have Ff:=(hn.core c hc).1.kG;have hl:=hG.ok.2.1;have hp:=rW hG.ok.1;rw[er,aD,eS,aD]
 show((tK.f S).bind _)=_
 rw[YJ hS,aD,WW hc,wi (x:=(c.ay.m.C.length:Int)-1) U U];obtain⟨f,ef,f0,f1⟩:=vQ (n:=cell) (lo:=0) (hi:=(c.ay.m.C.length:Int)-1) U U U;rw[ef,aD];have hf:bV c.ay.m f:=⟨f0,by omega⟩
 exact akY hS ⟨by omega,by omega⟩ hc hf iq 80 fuel f 0 0 U (by rw[cI];omega) U hf U U U (λho=>Way.here ho)
end Go.Proofs.YthodkonhneebbaaGreatDoor
