/- What the functions of some packages compute, each as a function of plain Lean, with its contract. No condition. -/
import Derived.Test.YthodkonhneebbaaGreatDoorKYT
import Derived.Test.YthodkonhneebbaaGreatDoorKY5
import Derived.Test.YthodkonhneebbaaGreatDoorKY7
namespace Go.Proofs.YthodkonhneebbaaGreatDoor
open Go.Hx
open List renaming length->aa
set_option maxRecDepth 100000
set_option linter.unusedSimpArgs false
set_option linter.unusedVariables false
set_option maxHeartbeats 4000000
set_option autoImplicit true
set_option relaxedAutoImplicit true
noncomputable section
def oe.l0:Nat->(List Int)->bJ->aJ->Int->Int->Int->Int->Option Bool
 |0,_,_,_,_,_,_,_=>none
 |qS+1,steps,lX,v3,v4,x8,x9,aN=>if((decide (aN<(aa steps:Int)))&&(decide (aN<80)))=true then(if(0<=aN/\aN<(aa steps:Int)) then((fo.f (rd steps aN) 0 3).bind λv12=>(D4.f v3.W v3.H x8 v12).bind λiB=>(if iB≥0 then(if(0<=iB/\iB<(aa v3.C:Int)) then(some ((rd v3.C iB)!=255)) else none) else(some false)).bind λbd=>if bd=true then(if(0<=iB/\iB<(aa v3.C:Int)) then(oe.l0 qS steps lX v3 v4 iB (af (x9+(af (rd v3.C iB)))) (af (aN+1))) else none) else(oe.l0 qS steps lX v3 v4 x8 x9 (af (aN+1)))) else none) else((sw.f lX x8 v4).bind λcP=>(sw.f cP.2.2.2 v4 x8).bind λv17=>if((!cP.2.2.1)||(!v17.2.2.1))=true then(some false) else(if(0<=v4/\v4<(aa v3.C:Int)) then(if((rd v3.C v4)==255)=true then((zb.f).bind λfq=>some (((fq&&(cP.1==1099511627776))&&(cP.2.1==5))&&(v17.1==1099511627776))) else(((zb.f).bind λv21=>if v21=true then(if cP.1<=x9 then(if cP.1≥0 then(if v17.1<1099511627776 then(if(0<=x8/\x8<(aa v3.C:Int)) then(some ((af (cP.1+(af (rd v3.C v4))))==(af (v17.1+(af (rd v3.C x8)))))) else none) else(some false)) else(some false)) else(some false)) else(some false)).bind λdh=>some dh)) else none))
def oe.f (w:Int) (h:Int) (p2:(List Int)) (l:(List p9)) (cell:Int) (steps:(List Int)):Option Bool:=(xA.f l 20).bind λv1=>(og.f 3 5 w h p2 (aB l 0 v1)).bind λv2=>dA v2 (some false) (λlX=>(tK.f lX).bind λv3=>(fo.f cell 0 (af ((aa v3.C:Int)-1))).bind λv4=>oe.l0 fuel steps lX v3 v4 v4 0 0)
theorem oe.c (H:oe.f w h p2 l cell steps=some r) (hG:fR 414 fk gZ el F) (C5:aU (Fl.int .u8) p2 GB F) (GX:aa p2<=IM) (dt:aU Fu l ig F) (gn:aa l<=g_) (Ut:aU (Fl.int .i64) steps aaf F) (alk:aa steps<=ahM):
 QU 4 [(ii w),(ii h),(ll GB p2 IM),(ll ig l g_),(ii cell),(ll aaf steps ahM)] [] F (bb r):=by
 unfold oe.f at H;refine aH Tryz.func4 J J (λW=>rc T 11 ?_);obtain⟨v1,V1,H⟩:=fY H;have c2:=xA.b V1;refine ba (wm (B:=λ_=>[]) [] J J J J ad7 J J (xA.c V1 (rO dt 0) gn) (λ_=>kr (og.R el) [] [] J adV H (og.c · (dE hG (j:=0) J) (rO C5 0) GX (od (rO dt 0) c2 gn) (nC c2 gn)) (λv2 H=>?_)));rintro _ _ ⟨_,_,O4,rfl,rfl⟩;rcases v2 with _ |lX
 ·replace H:=fx J H;obtain⟨rfl,rfl⟩:=O4;refine ro T 10 (oA J (rc T 7 ?_))
  cases H;exact p0 T J [0] J
 replace H:=fy J H;obtain⟨b1,H1,s1,rfl,rfl⟩:=O4;refine ro T 10 (fj J (rc T 5 (kr tK.R [1] [1] J UD H (tK.c · s1) (λv3 H=>?_))));rintro _ _ ⟨a2,n2,H2,s2,rfl,rfl⟩;refine fz J (nc T J (λb3=>sg T 3 J (ro T 6 (lf T 3 J (ro T 2 (k [] J lL H (fo.c ·) (λv4 H=>ro T 17 (lq [5,13,14,15] [0,1,1,0] (λ(⟨qS,x8,x9,aN⟩:Nat×Int×Int×Int)=>(oe.l0 qS steps lX v3 v4 x8 x9 aN=some r,[(16,(ii x8)),(17,(ii x9)),(18,(ii aN))],[])) J J (fuel,v4,0,0) [0,1,1,0] H J J ?_))))))));rintro qS ⟨x8,x9,aN⟩ Z7;replace Z7:oe.l0 (qS+1) steps lX v3 v4 x8 x9 aN=some r:=Z7;rw[oe.l0] at Z7;refine rc T 8 (ga T [5,6,7] 47 [5,13,14,15,16,17,18] 50 J J J J J J J (ro T 2 (cb J Z7 (λZ7=>?_) (λZ7=>?_))))
 ·refine rc T 5 (dy mix aA (au T J (cB T 2 J J J (au T J (cB T 2 J J J (au T J (au T J (au T J ?_))))))));obtain⟨c9,Z7⟩:=aF Z7;obtain⟨q4,o4,e4⟩:=Ut.addr c9.1 c9.2;refine br J J J (cV T J J J J J e4 c9.1 c9.2) (br J J J (cS T J J J J (iu (k:=(Fl.int .i64)) (rO Ut 0) e4 c9 0 J)) ?_);obtain⟨v12,M1,Z7⟩:=fY Z7;refine sP J J J J J J lL J (fo.c M1) ?_;obtain⟨iB,Z_,Z7⟩:=fY Z7;refine sP J J J J J J aes J (D4.c Z_) (au T J (cU (rx T 1 (mq Z7 [5,13,14,15,16,17,18,19] [0,0,0,0] (λCm (bd:Bool)=>(bd=Cm,[(73,(bb bd))],[])) J J (λCm bp _=>?_) ?_))))
  ·refine rc T 4 (ad 66 J bp (λbp=>?_) (λbp=>?_))
   ·refine ro T 1 (lf T 2 J (ro T 1 ?_));obtain⟨mv,bp⟩:=aF bp;obtain⟨q5,o5,e5⟩:=s2.r.addr mv.1 mv.2;refine ix T J e5 mv (le T 0 (oO s2 3) e5 mv J J (ro T 4 (am _ [0,0,0,0] (oi bp) J J)))
   refine ro T 9 (am _ [0,0,0,0] (oi bp) J J)
  rintro _ bd rfl Z7;refine cb J Z7 (λZ7=>?_) (λZ7=>?_)
  ·refine dy mix aA (au T J (au T J (au T J (cB T 2 J J J (au T J ?_)))));obtain⟨mw,Z7⟩:=aF Z7;obtain⟨q6,o6,e6⟩:=s2.r.addr mw.1 mw.2;refine br J J J (cV T J J J J J e6 mw.1 mw.2) (br J J J (cS T J J J J (iu (k:=(Fl.int .u8)) (oO s2 3) e6 mw 0 J)) ?_)
   iterate 4 refine au T J ?_
   refine cU (rx T 8 (ar (_,_,_) [0,0,0,0] Z7 J J))
  refine rc T 9 (ar (_,_,_) [0,0,0,0] Z7 J J)
 refine rc T 10 (kr (sw.R el b1) [] [1] J UN Z7 (sw.c · (dE hG (j:=0) J) s1) (λcP Z7=>?_));rintro _ _ ⟨H7,s7,rfl,rfl⟩;refine fz J (ro T 14 (kr (sw.R el b1) [] [3] J UN Z7 (sw.c · (dE hG (j:=0) J) s7) (λv17 Z7=>?_)));rintro _ _ ⟨H8,s8,rfl,rfl⟩;refine fz J (ro T 15 (go T [3,4,5] 101 [14,15,16,17,20,21,23] 104 J J J J J J J (ro T 2 (cb J Z7 (λZ7=>?_) (λZ7=>?_)))))
 ·refine rc T 7 ?_
  cases Z7;exact p0 T J [0] J
 refine rc T 6 (lf T 1 J (ro T 1 ?_));obtain⟨uc,Z7⟩:=aF Z7;obtain⟨q9,o9,e9⟩:=s2.r.addr uc.1 uc.2;refine ix T J e9 uc (le T 0 (oO s2 2) e9 uc J J (ro T 3 (cb J Z7 (λZ7=>?_) (λZ7=>?_))))
 ·refine rc T 2 (k [] J UR Z7 (zb.c · (dE hG (j:=0) J)) (λfq Z7=>ro T 1 (ga T [2,3,4] 112 [21,23] 115 J J J J J J J (ro T 1 (ga T [6,7,8] 116 [23] 119 J J J J J J J (ro T 1 (ga T [10,11,12] 120 [] 123 J J J J J J J (ro T 5 ?_))))))))
  cases Z7;exact p0 T J [0] J
 refine rc T 2 (mq Z7 [] [0] (λz20 (dh:Bool)=>(dh=z20,[(12,(bb dh))],[])) J J (λz20 gU _=>?_) ?_)
 ·refine dy mix aA ?_;obtain⟨v21,V24,gU⟩:=fY gU;refine sP J J J J J J UR J (zb.c V24 (dE hG (j:=0) J)) (au T J (qb 125 J gU (λgU=>?_) (λgU=>?_)))
  ·iterate 5 refine au T J ?_
   refine qd 130 J gU (λgU=>?_) (λgU=>?_)
   ·iterate 4 refine au T J ?_
    refine qd 134 J gU (λgU=>?_) (λgU=>?_)
    ·iterate 4 refine au T J ?_
     refine qd 138 J gU (λgU=>?_) (λgU=>?_)
     ·refine au T J (au T J (cB T 1 J J J (au T J (br J J J (cV T J J J J J e9 uc.1 uc.2) (br J J J (cS T J J J J (iu (k:=(Fl.int .u8)) (oO s2 2) e9 uc 0 J)) ?_)))))
      iterate 4 refine au T J ?_
      refine cB T 1 J J J (au T J ?_);obtain⟨NF,gU⟩:=aF gU;refine br J J J (cV T J J J J J e9 NF.1 NF.2) (br J J J (cS T J J J J (iu (k:=(Fl.int .u8)) (oO s2 2) e9 NF 0 J)) ?_)
      iterate 5 refine au T J ?_
      refine cU (rx T 1 (am _ [0] (oi gU) J J))
     iterate 19 refine au T J ?_
     refine cU (rx T 1 (am _ [0] (oi gU) J J))
    iterate 23 refine au T J ?_
    refine cU (rx T 1 (am _ [0] (oi gU) J J))
   iterate 27 refine au T J ?_
   refine cU (rx T 1 (am _ [0] (oi gU) J J))
  iterate 32 refine au T J ?_
  refine cU (rx T 1 (am _ [0] (oi gU) J J))
 rintro _ dh rfl Z7;refine rc T 1 ?_
 cases Z7;exact p0 T J [0] J
def oe.Pure:Prop:= ∀(w:Int) (h:Int) (p2:(List Int)) (l:(List p9)) (cell:Int) (steps:(List Int)),tl w->tl h->(∀y∈p2,dZ y)->(∀y∈l,(tl y.Kind/\tl y.A/\tl y.B))->tl cell->(∀y∈steps,tl y)->aa p2<=9223372036854775807->aa l<=9223372036854775807->aa steps<=9223372036854775807->oe.f w h p2 l cell steps=some true
end
end Go.Proofs.YthodkonhneebbaaGreatDoor
