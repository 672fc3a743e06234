/- What the functions of some packages compute, each as a function of plain Lean, with its contract. No condition. -/
import Derived.Test.YthodkonhneebbaaGreatDoorKYT
namespace Go.Proofs.YthodkonhneebbaaGreatDoor
open Go.Hx
open Int renaming tmod->fJ,tdiv->dm,fdiv->fS,toNat->ax
open List renaming length->aa,set->aG,replicate->cy,length_set->mo,flatten->bo,flatten_cons->wa,flatten_append->v_,flatten_nil->wb,append_nil->oq,append_assoc->pn
open BitVec renaming toNat->gi,ofInt->b_
open Nat renaming le_refl->l7
set_option maxRecDepth 100000
set_option linter.unusedSimpArgs false
set_option linter.unusedVariables false
set_option maxHeartbeats 4000000
set_option autoImplicit true
set_option relaxedAutoImplicit true
noncomputable section
def fo.f (n:Int) (lo:Int) (hi:Int):Option Int:=if(¬(af ((af (hi-lo))+1))=0) then(if(fJ n (af ((af (hi-lo))+1)))<0 then(some (af (lo+(af ((af ((af ((fJ n (af ((af (hi-lo))+1)))+hi))-lo))+1))))) else(some (af (lo+(fJ n (af ((af (hi-lo))+1))))))) else none
theorem fo.c (H:fo.f n lo hi=some r):
 QU 12 [(ii n),(ii lo),(ii hi)] [] F (ii r):=by
 unfold fo.f at H;refine aH Tryz.func12 J J (λW=>rc T 12 ?_);obtain⟨c1,H⟩:=aF H;refine bz J (vh J J J c1) (ro T 10 (cd J H (λH=>?_) (λH=>?_)))
 ·refine rc T 19 ?_
  cases H;exact p0 T J [0] J
 refine rc T 11 ?_
 cases H;exact p0 T J [0] J
def xf.f (x:Int):Option Int:=if((fJ x 8)==7)=true then(some 255) else(if x<160 then(some (bP (1+(fJ x 4)))) else(some x))
theorem xf.c (H:xf.f x=some r):
 QU 49 [(.int .u8 x)] [] F (.int .u8 r):=by
 unfold xf.f at H;refine aH Tryz.func49 J J (λW=>rc T 13 (cb J H (λH=>?_) (λH=>?_)))
 ·refine rc T 7 ?_
  cases H;exact p0 T J [0] J
 refine rc T 9 (cd J H (λH=>?_) (λH=>?_))
 ·refine rc T 10 ?_
  cases H;exact p0 T J [0] J
 refine rc T 9 ?_
 cases H;exact p0 T J [0] J
def lS.l0:Nat->(List Int)->Int->Int->List Int->Int->Option aJ
 |0,_,_,_,_,_=>none
 |k7+1,p2,v1,v2,x5,x6=>if x6<(af (v1*v2)) then(if(aa p2:Int)>0 then(if(¬(aa p2:Int)=0) then(if(¬(aa p2:Int)=0) then(if(0<=(fJ (af (x6+(af ((af (dm x6 (aa p2:Int)))*5)))) (aa p2:Int))/\(fJ (af (x6+(af ((af (dm x6 (aa p2:Int)))*5)))) (aa p2:Int))<(aa p2:Int)) then((xf.f (rd p2 (fJ (af (x6+(af ((af (dm x6 (aa p2:Int)))*5)))) (aa p2:Int)))).bind λv8=>if(aa x5+1<=1099511627776) then(lS.l0 k7 p2 v1 v2 (x5++[v8]) (af (x6+1))) else none) else none) else none) else none) else((xf.f 1).bind λv9=>if(aa x5+1<=1099511627776) then(lS.l0 k7 p2 v1 v2 (x5++[v9]) (af (x6+1))) else none)) else(some (aJ.mk v1 v2 x5))
def lS.f (w:Int) (h:Int) (p2:(List Int)):Option aJ:=(fo.f w 1 40).bind λv1=>(fo.f h 1 40).bind λv2=>lS.l0 fuel p2 v1 v2 [] 0
def lS.R (r:aJ):bm:=λu G=> ∃a0 n0 H0,ak (Fl.int .u8) 5 r.C a0 n0 H0/\u=(.agg #[(ii r.W),(ii r.H),(ll a0 r.C n0)])/\G=[H0]
theorem lS.c (H:lS.f w h p2=some r) (C5:aU (Fl.int .u8) p2 GB F) (GX:aa p2<=IM):
 QR 48 [(ii w),(ii h),(ll GB p2 IM)] [] [] F (lS.R r):=by
 unfold lS.f at H;refine aH Tryz.func48 J J (λW=>rc T 2 (nc T J (λb1=>ro T 5 (k [] J lL H (fo.c ·) (λv1 H=>ro T 1 (k [] J lL H (fo.c ·) (λv2 H=>ro T 1 (nc T J (λb2=>sg T 2 J (ro T 9 (bC (lq [2,6,7] [0,0] (λ(⟨k7,x5,x6,a4,n4,H4⟩:Nat×List Int×Int×Option Addr×Nat×Hp)=>(lS.l0 k7 p2 v1 v2 x5 x6=some r/\ak (Fl.int .u8) 5 x5 a4 n4 H4,[(8,(ii x6))],[(cl b2 30 [(ii v1),(ii v2),(ll a4 x5 n4)]),H4])) J J (fuel,[],0,none,0,[]) [0,0,0,0] ⟨H,ak.nil⟩ J J ?_))))))))))));rintro k7 ⟨x5,x6,a4,n4,H4⟩ ⟨Z3,s4⟩;rw[lS.l0] at Z3;refine rc T 5 (lf T 2 J (ro T 1 (lf T 2 J (ro T 4 (cd J Z3 (λZ3=>?_) (λZ3=>?_))))))
 ·refine rc T 23 (cd J Z3 (λZ3=>?_) (λZ3=>?_))
  ·refine rc T 5 ?_;obtain⟨c6,Z3⟩:=aF Z3;refine bz J (vg J J J c6) (ro T 3 ?_);obtain⟨c7,Z3⟩:=aF Z3;refine bz J (vh J J J c7) ?_;obtain⟨c8,Z3⟩:=aF Z3;obtain⟨q5,o5,e5⟩:=C5.addr c8.1 c8.2;refine ix T J e5 c8 (le T 0 (rO C5 0) e5 c8 J J (ro T 3 (fz J (rg [5,7] [0,0,0,0] mix (bU bT) (λhg pf=>ha T 7 [0] sz hg pf J (al T 1 2 sz hg pf J J J (ha T 5 [2] sz hg pf J (ao 3 (kh [] J OY Z3 (xf.c ·) (λv8 Z3=>an sz (ao 4 (dp (k:=(Fl.int .u8)) T [v8] J J J J J J J J J (λa6 H6 s6=>an (so [0,0,0,0]) (ao 5 ?_))))))))))))));obtain⟨iX,Z3⟩:=aF Z3;refine eP (k:=(Fl.int .u8)) (xs:=x5) T (g:=3) J J J J J J J J J J s4 (oO s6 4) iX J (λa7 n7 H7 s7=>an sl (hb T 6 sl hg pf J (ao 7 (sf T 2 J (an sl (ae (rx T 8 (ar (_,_,_,_,_) [0,0,0,0] ⟨Z3,s7⟩ J J))))))))
  refine rc T 2 (fz J (rg [5,7] [0,0,0,0] mix (bU bT) (λhg pf=>ha T 7 [0] sz hg pf J (al T 1 2 sz hg pf J J J (ha T 5 [2] sz hg pf J (ao 3 (kh [] J OY Z3 (xf.c ·) (λv9 Z3=>an sz (ao 4 (dp (k:=(Fl.int .u8)) T [v9] J J J J J J J J J (λa8 H8 s8=>an (so [0,0,0,0]) (ao 5 ?_))))))))))));obtain⟨iF,Z3⟩:=aF Z3;refine eP (k:=(Fl.int .u8)) (xs:=x5) T (g:=3) J J J J J J J J J J s4 (oO s8 4) iF J (λa9 n9 H9 s9=>an sl (hb T 6 sl hg pf J (ao 7 (sf T 2 J (an sl (ae (rx T 8 (ar (_,_,_,_,_) [0,0,0,0] ⟨Z3,s9⟩ J J))))))))
 refine rc T 7 (lm T 2 J (sg T 1 J (ro T 3 ?_)))
 cases Z3;exact pb T J (.c_ (j:=1) [(ii v1),(ii v2),(ll a4 x5 n4)] J J J J J J J .nil) [3,0] ⟨(_,_),a4,n4,H4,s4,J,J⟩ J J
def nu.f (n:Int) (lo:Int) (hi:Int):Option Bool:=some ((decide (n≥lo))&&(decide (n<=hi)))
theorem nu.c (H:nu.f n lo hi=some r):
 QU 47 [(ii n),(ii lo),(ii hi)] [] F (bb r):=by
 unfold nu.f at H;refine aH Tryz.func47 J J (λW=>rc T 11 (ga T [4,5,6,7] 10 [] 14 J J J J J J J (ro T 4 ?_)))
 cases H;exact p0 T J [0] J
def xg.f (w:Int) (h:Int):Option Bool:=((nu.f w 1 1024).bind λv3=>if v3=true then((nu.f h 1 1024).bind λv4=>some v4) else(some false)).bind λx1=>some x1
theorem xg.c (H:xg.f w h=some r):
 QU 67 [(ii w),(ii h)] [] F (bb r):=by
 unfold xg.f at H;refine aH Tryz.func67 J J (λW=>rc T 5 (mq H [] [0] (λz2 (x1:Bool)=>(x1=z2,[(4,(bb x1))],[])) J J (λz2 Z1 _=>?_) ?_))
 ·refine rc T 2 (k [] J Br Z1 (nu.c ·) (λv3 Z1=>ro T 1 (ab 7 J Z1 (λZ1=>?_) (λZ1=>?_))))
  ·refine ro T 1 (k [] J Br Z1 (nu.c ·) (λv4 Z1=>ro T 4 (am _ [0] (oi Z1) J J)))
  refine ro T 6 (am _ [0] (oi Z1) J J)
 rintro _ x1 rfl H;refine rc T 1 ?_
 cases H;exact p0 T J [0] J
def xh.f (w:Int) (h:Int):Option (Int×Int):=(xg.f w h).bind λv1=>if(!v1)=true then(some (0,0)) else(some ((af (dm (af ((af (w+16))-1)) 16)),(af (dm (af ((af (h+16))-1)) 16))))
theorem xh.c (H:xh.f w h=some r):
 QU 57 [(ii w),(ii h)] [] F (.tuple #[(ii r.1),(ii r.2)]):=by
 unfold xh.f at H;refine aH Tryz.func57 J J (λW=>rc T 11 (k [] J O1 H (xg.c ·) (λv1 H=>ro T 3 (cb J H (λH=>?_) (λH=>?_)))))
 ·refine rc T 8 ?_
  cases H;exact p0 T J [0] J
 refine rc T 17 ?_
 cases H;exact p0 T J [0] J
def Ay.f (w:Int) (h:Int):Option Int:=(xh.f w h).bind λv1=>some (af (v1.1*v1.2))
theorem Ay.c (H:Ay.f w h=some r):
 QU 25 [(ii w),(ii h)] [] F (ii r):=by
 unfold Ay.f at H;refine aH Tryz.func25 J J (λW=>rc T 9 (k [] J OZ H (xh.c ·) (λv1 H=>ro T 16 ?_)))
 cases H;exact p0 T J [0] J
def Az.f (w:Int) (h:Int) (s:Int):Option (Int×Int):=(Ay.f w h).bind λv1=>(nu.f s 0 (af (v1-1))).bind λv2=>if(!v2)=true then(some (0,0)) else((xh.f w h).bind λv3=>if(¬v3.1=0) then(if(¬v3.1=0) then(some ((if(af (w-(af (16*(fJ s v3.1)))))<16 then(af (w-(af (16*(fJ s v3.1))))) else 16),(if(af (h-(af (16*(af (dm s v3.1))))))<16 then(af (h-(af (16*(af (dm s v3.1)))))) else 16))) else none) else none)
theorem Az.c (H:Az.f w h s=some r):
 QU 70 [(ii w),(ii h),(ii s)] [] F (.tuple #[(ii r.1),(ii r.2)]):=by
 unfold Az.f at H;refine aH Tryz.func70 J J (λW=>rc T 12 (k [] J Va H (Ay.c ·) (λv1 H=>ro T 1 (k [] J Br H (nu.c ·) (λv2 H=>ro T 3 (cb J H (λH=>?_) (λH=>?_)))))))
 ·refine rc T 8 ?_
  cases H;exact p0 T J [0] J
 refine rc T 6 (k [] J OZ H (xh.c ·) (λv3 H=>ro T 8 (dy mix aA (au T J (au T J (au T J ?_))))));obtain⟨c5,H⟩:=aF H;refine br J J J (vh J J J c5) ?_
 iterate 6 refine au T J ?_
 obtain⟨c6,H⟩:=aF H;refine br J J J (vg J J J c6) ?_
 iterate 5 refine au T J ?_
 refine cU (rx T 2 ?_)
 cases H;exact p0 T J [0] J
def DZ.f (w:Int) (h:Int) (s:Int) (l:Int):Option Int:=(Az.f w h s).bind λv1=>(nu.f l 0 (af ((af (v1.1*v1.2))-1))).bind λv2=>if(!v2)=true then(some (-1)) else((xh.f w h).bind λv3=>if(¬v3.1=0) then(if(¬v1.1=0) then(if(¬v3.1=0) then(if(¬v1.1=0) then(some (af ((af ((af ((af ((af (16*(af (dm s v3.1))))+(af (dm l v1.1))))*w))+(af (16*(fJ s v3.1)))))+(fJ l v1.1)))) else none) else none) else none) else none)
theorem DZ.c (H:DZ.f w h s l=some r):
 QU 71 [(ii w),(ii h),(ii s),(ii l)] [] F (ii r):=by
 unfold DZ.f at H;refine aH Tryz.func71 J J (λW=>rc T 10 (k [] J Vn H (Az.c ·) (λv1 H=>ro T 15 (k [] J Br H (nu.c ·) (λv2 H=>ro T 3 (cb J H (λH=>?_) (λH=>?_)))))))
 ·refine rc T 7 ?_
  cases H;exact p0 T J [0] J
 refine rc T 6 (k [] J OZ H (xh.c ·) (λv3 H=>ro T 8 (dy mix aA (au T J (au T J ?_)))));obtain⟨c5,H⟩:=aF H;refine br J J J (vg J J J c5) (au T J (au T J (au T J ?_)));obtain⟨c6,H⟩:=aF H;refine br J J J (vg J J J c6) ?_
 iterate 5 refine au T J ?_
 obtain⟨c7,H⟩:=aF H;refine br J J J (vh J J J c7) ?_
 iterate 4 refine au T J ?_
 obtain⟨c8,H⟩:=aF H;refine br J J J (vh J J J c8) (au T J (au T J (cU (rx T 2 ?_))))
 cases H;exact p0 T J [0] J
def oW.l0:Nat->aJ->Int->(Int×Int)->List Int->Int->Option aJ
 |0,_,_,_,_,_=>none
 |k6+1,m,s,v1,x4,x5=>if x5<(af (v1.1*v1.2)) then((DZ.f m.W m.H s x5).bind λv7=>if(0<=v7/\v7<(aa m.C:Int)) then(if(aa x4+1<=1099511627776) then(oW.l0 k6 m s v1 (x4++[(rd m.C v7)]) (af (x5+1))) else none) else none) else(some (aJ.mk v1.1 v1.2 x4))
def oW.f (m:aJ) (s:Int):Option aJ:=(Az.f m.W m.H s).bind λv1=>oW.l0 fuel m s v1 [] 0
def oW.R (r:aJ):bm:=λu G=> ∃a0 n0 H0,ak (Fl.int .u8) 5 r.C a0 n0 H0/\u=(.agg #[(ii r.W),(ii r.H),(ll a0 r.C n0)])/\G=[H0]
theorem oW.c (H:oW.f m s=some r) (rL:aU (Fl.int .u8) m.C oy F) (ud:aa m.C<=nX):
 QR 76 [(.agg #[(ii m.W),(ii m.H),(ll oy m.C nX)]),(ii s)] [] [] F (oW.R r):=by
 unfold oW.f at H;refine aH Tryz.func76 J J (λW=>rc T 2 (nc T J (λb1=>nc T J (λb2=>ro T 5 (lf T 1 J (ro T 1 (lf T 1 J (ro T 1 (k [] J Vn H (Az.c ·) (λv1 H=>ro T 12 (nc T J (λb3=>sg T 3 J (ro T 9 (bC (lq [1,2,4,5,6,7] [0,0,0] (λ(⟨k6,x4,x5,a5,n5,H5⟩:Nat×List Int×Int×Option Addr×Nat×Hp)=>(oW.l0 k6 m s v1 x4 x5=some r/\ak (Fl.int .u8) 5 x4 a5 n5 H5,[(8,(ii x5))],[(cl b3 139 [(ii v1.1),(ii v1.2),(ll a5 x4 n5)]),H5])) J J (fuel,[],0,none,0,[]) [0,0,0,0,0] ⟨H,ak.nil⟩ J J ?_)))))))))))))));rintro k6 ⟨x4,x5,a5,n5,H5⟩ ⟨Z2,s5⟩;rw[oW.l0] at Z2;refine rc T 10 (cd J Z2 (λZ2=>?_) (λZ2=>?_))
 ·refine rc T 4 (fz J (rg [14,16] [0,0,0,0,0] mix (bU bT) (λhg pf=>ha T 16 [0] sz hg pf J (al T 1 3 sz hg pf J J J (ha T 14 [2] sz hg pf J (al T 3 1 sz hg pf J J J (ha T 12 [4] sz hg pf J (al T 5 1 sz hg pf J J J (ha T 10 [6] sz hg pf J (al T 7 1 sz hg pf J J J (ha T 7 [8,9] sz hg pf J (ao 10 (kh [] J afD Z2 (DZ.c ·) (λv7 Z2=>an sz ?_))))))))))))));obtain⟨c5,Z2⟩:=aF Z2;obtain⟨q6,o6,e6⟩:=rL.addr c5.1 c5.2;refine av 11 sz hg pf J (cV T J J J J J e6 c5.1 c5.2) (av 12 sz hg pf J (cS T J J J J (iu (k:=(Fl.int .u8)) (rO rL 0) e6 c5 0 J)) (ao 13 (dp (k:=(Fl.int .u8)) T [(rd m.C v7)] J J J J J J J J J (λa7 H7 s7=>an (so [0,0,0,0,0]) (ao 14 ?_)))));obtain⟨c6,Z2⟩:=aF Z2;refine eP (k:=(Fl.int .u8)) (xs:=x4) T (g:=4) J J J J J J J J J J s5 (oO s7 5) c6 J (λa8 n8 H8 s8=>an sl (hb T 15 sl hg pf J (ao 16 (sf T 3 J (an sl (ae (rx T 8 (ar (_,_,_,_,_) [0,0,0,0,0] ⟨Z2,s8⟩ J J))))))))
 refine rc T 7 (lm T 3 J (sg T 2 J (ro T 3 ?_)))
 cases Z2;exact pb T J (.c_ (j:=2) [(ii v1.1),(ii v1.2),(ll a5 x4 n5)] J J J J J J J .nil) [4,0] ⟨(_,_),a5,n5,H5,s5,J,J⟩ J J
def iS.l1:Nat->(List Int)->Int->Int->Option Int
 |0,_,_,_=>none
 |vw+1,ai,x4,bA=>(if(af (x4+bA))<(aa ai:Int) then(if(0<=(af (x4+bA))/\(af (x4+bA))<(aa ai:Int)) then(if(0<=x4/\x4<(aa ai:Int)) then(some ((rd ai (af (x4+bA)))==(rd ai x4))) else none) else none) else(some false)).bind λbd=>if bd=true then(iS.l1 vw ai x4 (af (bA+1))) else(some bA)
def iS.l0:Nat->(List Int)->List Int->Int->Option (List Int)
 |0,_,_,_=>none
 |k5+1,ai,x3,x4=>if x4<(aa ai:Int) then(((iS.l1 fuel ai x4 1).bind λx9=>if(0<=x4/\x4<(aa ai:Int)) then(if(aa x3+2<=1099511627776) then(some ((x3++[(bP (af (x9-1))),(rd ai x4)]),(af (x4+x9)))) else none) else none).bind λ(x6,x7)=>iS.l0 k5 ai x6 x7) else(some x3)
def iS.f (ai:(List Int)):Option (List Int):=iS.l0 fuel ai [2] 0
def iS.R (r:(List Int)):bm:=λu G=> ∃a0 n0 H0,ak (Fl.int .u8) 5 r a0 n0 H0/\u=(ll a0 r n0)/\G=[H0]
theorem iS.c (H:iS.f ai=some r) (wF:aU (Fl.int .u8) ai GA F) (SI:aa ai<=IL):
 QR 104 [(ll GA ai IL)] [] [] F (iS.R r):=by
 unfold iS.f at H;refine aH Tryz.func104 J J (λW=>rc T 7 (ba (dp (k:=(Fl.int .u8)) T [2] J J J J J J J J J (λa1 H1 s1=>ro T 10 (lq [0] [0] (λ(⟨k5,x3,x4,a3,n3,H3⟩:Nat×List Int×Int×Option Addr×Nat×Hp)=>(iS.l0 k5 ai x3 x4=some r/\ak (Fl.int .u8) 5 x3 a3 n3 H3,[(3,(ll a3 x3 n3)),(4,(ii x4))],[H3])) J J (fuel,[2],0,a1,(aa [2]),H1) [0,0] ⟨H,s1⟩ J J ?_)))));rintro k5 ⟨x3,x4,a3,n3,H3⟩ ⟨Z1,s3⟩;rw[iS.l0] at Z1;refine rc T 9 (cd J Z1 (λZ1=>?_) (λZ1=>?_))
 ·refine rc T 2 (mn Z1 [0] [0] (λz8 (⟨x6,x7,a4,n4,H4⟩:List Int×Int×Option Addr×Nat×Hp)=>((x6,x7)=z8/\ak (Fl.int .u8) 5 x6 a4 n4 H4,[(3,(ll a4 x6 n4)),(4,(ii x7))],[H4])) J J (λz8 Z3 _=>?_) ?_)
  ·refine rc T 6 (mq Z3 [0,3,4] [0,0] (λmS (x9:Int)=>(x9=mS,[(5,(ii x9))],[])) J J (λmS Z4 _=>?_) ?_)
   ·refine rc T 1 (lq [0,3,4] [0,0] (λ(⟨vw,bA⟩:Nat×Int)=>(iS.l1 vw ai x4 bA=some mS,[(5,(ii bA))],[])) J J (fuel,1) [0,0] Z4 J J ?_);rintro vw bA Z5;replace Z5:iS.l1 (vw+1) ai x4 bA=some mS:=Z5;rw[iS.l1] at Z5;refine rc T 1 (mq Z5 [0,3,4,5] [0,0] (λCm (bd:Bool)=>(bd=Cm,[(29,(bb bd))],[])) J J (λCm Z6 _=>?_) ?_)
    ·refine dy mix aA ?_
     iterate 7 refine au T J ?_
     refine qd 17 J Z6 (λZ6=>?_) (λZ6=>?_)
     ·iterate 4 refine au T J ?_
      obtain⟨c8,Z6⟩:=aF Z6;obtain⟨q5,o5,e5⟩:=wF.addr c8.1 c8.2;refine br J J J (cV T J J J J J e5 c8.1 c8.2) (br J J J (cS T J J J J (iu (k:=(Fl.int .u8)) (rO wF 0) e5 c8 0 J)) (au T J (au T J ?_)));obtain⟨c9,Z6⟩:=aF Z6;refine br J J J (cV T J J J J J e5 c9.1 c9.2) (br J J J (cS T J J J J (iu (k:=(Fl.int .u8)) (rO wF 0) e5 c9 0 J)) (au T J (au T J (cU (rx T 1 (am _ [0,0] (oi Z6) J J))))))
     iterate 12 refine au T J ?_
     refine cU (rx T 1 (am _ [0,0] (oi Z6) J J))
    rintro _ bd rfl Z5;refine cb J Z5 (λZ5=>?_) (λZ5=>?_)
    ·refine rc T 10 (ar _ [0,0] Z5 J J)
    refine rc T 5 (am _ [0,0] (oi Z5) J J)
   rintro _ x9 rfl Z3;refine rc T 8 ?_;obtain⟨eQ,Z3⟩:=aF Z3;obtain⟨q6,o6,e6⟩:=wF.addr eQ.1 eQ.2;refine ix T J e6 eQ (le T 0 (rO wF 0) e6 eQ J J (ba (dp (k:=(Fl.int .u8)) T [(bP (af (x9-1))),(rd ai x4)] J J J J J J J J J (λa7 H7 s7=>?_))));obtain⟨iF,Z3⟩:=aF Z3;refine ba (eP (k:=(Fl.int .u8)) (xs:=x3) T (g:=1) J J J J J J J J J J s3 (oO s7 2) iF J (λa8 n8 H8 s8=>ro T 11 (am (_,_,_,_,_) [0,0] ⟨oi Z3,s8⟩ J J)))
  rintro _ ⟨x6,x7,a4,n4,H4⟩ ⟨rfl,s4⟩ Z1;refine rx T 1 (ar (_,_,_,_,_) [0,0] ⟨Z1,s4⟩ J J)
 refine rc T 12 ?_
 cases Z1;exact p1 T J [1,0] ⟨a3,n3,H3,s3,J,J⟩ J
def yQ.f (t:aJ):Option (Int×(List Int)):=(iS.f t.C).bind λv1=>if((aa v1:Int)==3)=true then(if(0<=(0:Int)/\(0:Int)<(aa t.C:Int)) then(some (0,[0,(rd t.C 0)])) else none) else(if(aa v1:Int)<(af (1+(aa t.C:Int))) then(some (2,v1)) else(if(aa [1]+aa t.C<=1099511627776) then(some (1,([1]++t.C))) else none))
def yQ.R (r:(Int×(List Int))):bm:=λu G=> ∃a0 n0 H0,ak (Fl.int .u8) 5 r.2 a0 n0 H0/\u=(.tuple #[(ii r.1),(ll a0 r.2 n0)])/\G=[H0]
theorem yQ.c (H:yQ.f t=some r) (eB:aU (Fl.int .u8) t.C iN F) (fI:aa t.C<=iR):
 QR 75 [(.agg #[(ii t.W),(ii t.H),(ll iN t.C iR)])] [] [] F (yQ.R r):=by
 unfold yQ.f at H;refine aH Tryz.func75 J J (λW=>rc T 2 (nc T J (λb1=>ro T 7 (lf T 1 J (kr iS.R [] [] J adT H (iS.c · (rO eB 0) fI) (λv1 H=>?_))))));rintro _ _ ⟨a2,n2,H2,s2,rfl,rfl⟩;refine fz J (ro T 11 (cb J H (λH=>?_) (λH=>?_)))
 ·refine rc T 1 (ke [1] [0,0] J J (fz J (rg [] [0,0] mix (bU bT) (λhg pf=>ha T 6 [0] sz hg pf J (al T 1 1 sz hg pf J J J ?_)))));obtain⟨c3,H⟩:=aF H;obtain⟨q3,o3,e3⟩:=eB.addr c3.1 c3.2;refine av 2 sz hg pf J (cV T J J J J J e3 c3.1 c3.2) (av 3 sz hg pf J (cS T J J J J (iu (k:=(Fl.int .u8)) (rO eB 0) e3 c3 0 J)) (ha T 2 [5] sz hg pf J (ao 4 (dp (k:=(Fl.int .u8)) T [0,(rd t.C 0)] J J J J J J J J J (λa4 H4 s4=>an (so [0,0]) (ha T 0 [6] (so [0,0]) hg pf J (ae (rx T 3 ?_))))))))
  cases H;exact p1 T J [2,0] ⟨a4,(aa [0,(rd t.C 0)]),H4,s4,J,J⟩ J
 refine rc T 8 (lf T 1 J (ro T 5 (cd J H (λH=>?_) (λH=>?_))))
 ·refine rc T 9 ?_
  cases H;exact p1 T J [2,0] ⟨a2,n2,H2,s2,J,J⟩ J
 refine rc T 4 (ba (dp (k:=(Fl.int .u8)) T [1] J J J J J J J J J (λa5 H5 s5=>ro T 1 (lf T 1 J ?_))));obtain⟨c5,H⟩:=aF H;refine ba (eP (k:=(Fl.int .u8)) (xs:=[1]) T (g:=3) J J J J J J J J J J s5 (rO eB 0) c5 J (λa6 n6 H6 s6=>ro T 3 (ke [2,3] [0,2] J J (rx T 2 ?_))))
 cases H;exact p1 T J [1,0] ⟨a6,n6,H6,s6,J,J⟩ J
def lT.l0:Nat->aJ->List Int->Int->Option (List Int)
 |0,_,_,_=>none
 |k5+1,m,x3,x4=>(Ay.f m.W m.H).bind λv6=>if x4<v6 then((oW.f m x4).bind λv7=>(yQ.f v7).bind λv8=>if(aa x3+aa v8.2<=1099511627776) then(lT.l0 k5 m (x3++v8.2) (af (x4+1))) else none) else(some x3)
def lT.f (m:aJ):Option (List Int):=lT.l0 fuel m [(bP m.W),(bP (fS m.W (2^8))),(bP m.H),(bP (fS m.H (2^8)))] 0
def lT.R (r:(List Int)):bm:=λu G=> ∃a0 n0 H0,ak (Fl.int .u8) 5 r a0 n0 H0/\u=(ll a0 r n0)/\G=[H0]
theorem lT.c (H:lT.f m=some r) (rL:aU (Fl.int .u8) m.C oy F) (ud:aa m.C<=nX):
 QR 45 [(.agg #[(ii m.W),(ii m.H),(ll oy m.C nX)])] [] [] F (lT.R r):=by
 unfold lT.f at H;refine aH Tryz.func45 J J (λW=>rc T 2 (nc T J (λb1=>ro T 6 (lf T 1 J (ro T 2 (lf T 1 J (ro T 3 (lf T 1 J (ro T 2 (lf T 1 J (ro T 2 (ba (dp (k:=(Fl.int .u8)) T [(bP m.W),(bP (fS m.W (2^8))),(bP m.H),(bP (fS m.H (2^8)))] J J J J J J J J J (λa2 H2 s2=>ro T 10 (lq [1] [0,0] (λ(⟨k5,x3,x4,a4,n4,H4⟩:Nat×List Int×Int×Option Addr×Nat×Hp)=>(lT.l0 k5 m x3 x4=some r/\ak (Fl.int .u8) 5 x3 a4 n4 H4,[(3,(ll a4 x3 n4)),(4,(ii x4))],[H4])) J J (fuel,[(bP m.W),(bP (fS m.W (2^8))),(bP m.H),(bP (fS m.H (2^8)))],0,a2,(aa [(bP m.W),(bP (fS m.W (2^8))),(bP m.H),(bP (fS m.H (2^8)))]),H2) [0,0,0] ⟨H,s2⟩ J J ?_)))))))))))))));rintro k5 ⟨x3,x4,a4,n4,H4⟩ ⟨Z1,s4⟩;rw[lT.l0] at Z1;refine rc T 5 (lf T 1 J (ro T 1 (lf T 1 J (k [] J Va Z1 (Ay.c ·) (λv6 Z1=>ro T 3 (cd J Z1 (λZ1=>?_) (λZ1=>?_)))))))
 ·refine rc T 6 (lm T 1 J (ro T 1 (kr oW.R [] [] J afG Z1 (oW.c · (rO rL 0) ud) (λv7 Z1=>?_))));rintro _ _ ⟨a5,n5,H5,s5,rfl,rfl⟩;refine fz J (kr yQ.R [] [] J afF Z1 (yQ.c · (oO s5 3) s5.ck) (λv8 Z1=>?_));rintro _ _ ⟨a6,n6,H6,s6,rfl,rfl⟩;refine fz J (ro T 10 ?_);obtain⟨c6,Z1⟩:=aF Z1;refine ba (eP (k:=(Fl.int .u8)) (xs:=x3) T (g:=2) J J J J J J J J J J s4 (oO s6 4) c6 J (λa7 n7 H7 s7=>ro T 10 (ar (_,_,_,_,_) [0,0,0] ⟨Z1,s7⟩ J J)))
 refine rc T 12 ?_
 cases Z1;exact p1 T J [2,0] ⟨a4,n4,H4,s4,J,J⟩ J
def qX.l0:Nat->(List Int)->Int->Option Bool
 |0,_,_=>none
 |k3+1,ai,x2=>if x2<(aa ai:Int) then(if(0<=x2/\x2<(aa ai:Int)) then(if((rd ai x2)==0)=true then(some false) else(qX.l0 k3 ai (af (x2+1)))) else none) else(some true)
def qX.f (ai:(List Int)):Option Bool:=qX.l0 fuel ai 0
theorem qX.c (H:qX.f ai=some r) (wF:aU (Fl.int .u8) ai GA F) (SI:aa ai<=IL):
 QU 73 [(ll GA ai IL)] [] F (bb r):=by
 unfold qX.f at H;refine aH Tryz.func73 J J (λW=>rc T 12 (lq [0] [0] (λ(⟨k3,x2⟩:Nat×Int)=>(qX.l0 k3 ai x2=some r,[(3,(ii x2))],[])) J J (fuel,0) [0] H J J ?_));rintro k3 x2 Z1;replace Z1:qX.l0 (k3+1) ai x2=some r:=Z1;rw[qX.l0] at Z1;refine rc T 9 (cd J Z1 (λZ1=>?_) (λZ1=>?_))
 ·refine rc T 8 ?_;obtain⟨c3,Z1⟩:=aF Z1;obtain⟨q1,o1,e1⟩:=wF.addr c3.1 c3.2;refine ix T J e1 c3 (le T 0 (rO wF 0) e1 c3 J J (ro T 3 (cb J Z1 (λZ1=>?_) (λZ1=>?_))))
  ·refine rc T 11 ?_
   cases Z1;exact p0 T J [0] J
  refine rc T 9 (ar _ [0] Z1 J J)
 refine rc T 11 ?_
 cases Z1;exact p0 T J [0] J
def D3.f (m:aJ):Option Bool:=((xg.f m.W m.H).bind λv3=>if v3=true then(if((aa m.C:Int)==(af (m.W*m.H)))=true then((qX.f m.C).bind λv4=>some v4) else(some false)) else(some false)).bind λx1=>some x1
theorem D3.c (H:D3.f m=some r) (rL:aU (Fl.int .u8) m.C oy F) (ud:aa m.C<=nX):
 QU 41 [(.agg #[(ii m.W),(ii m.H),(ll oy m.C nX)])] [] F (bb r):=by
 unfold D3.f at H;refine aH Tryz.func41 J J (λW=>rc T 2 (nc T J (λb1=>ro T 3 (mq H [] [0] (λz2 (x1:Bool)=>(x1=z2,[(2,(bb x1))],[])) J J (λz2 Z1 _=>?_) ?_))))
 ·refine rc T 2 (lf T 1 J (ro T 1 (lf T 1 J (k [] J O1 Z1 (xg.c ·) (λv3 Z1=>ro T 1 (ab 8 J Z1 (λZ1=>?_) (λZ1=>?_)))))))
  ·refine ro T 1 (lf T 1 J (ro T 2 (lf T 1 J (ro T 1 (lf T 1 J (ro T 4 (ab 19 J Z1 (λZ1=>?_) (λZ1=>?_))))))))
   ·refine ro T 1 (lf T 1 J (k [] J afE Z1 (qX.c · (rO rL 0) ud) (λv4 Z1=>ro T 4 (am _ [0] (oi Z1) J J))))
   refine ro T 7 (am _ [0] (oi Z1) J J)
  refine ro T 18 (am _ [0] (oi Z1) J J)
 rintro _ x1 rfl H;refine rc T 1 ?_
 cases H;exact p0 T J [0] J
def D1.f (w:Int) (h:Int) (p2:Int):Option Bool:=((xg.f w h).bind λv3=>if v3=true then((nu.f p2 0 (af ((af (w*h))-1))).bind λv4=>some v4) else(some false)).bind λx1=>some x1
theorem D1.c (H:D1.f w h p2=some r):
 QU 36 [(ii w),(ii h),(ii p2)] [] F (bb r):=by
 unfold D1.f at H;refine aH Tryz.func36 J J (λW=>rc T 5 (mq H [] [0] (λz2 (x1:Bool)=>(x1=z2,[(6,(bb x1))],[])) J J (λz2 Z1 _=>?_) ?_))
 ·refine rc T 3 (k [] J O1 Z1 (xg.c ·) (λv3 Z1=>ro T 1 (ab 10 J Z1 (λZ1=>?_) (λZ1=>?_))))
  ·refine ro T 5 (k [] J Br Z1 (nu.c ·) (λv4 Z1=>ro T 4 (am _ [0] (oi Z1) J J)))
  refine ro T 10 (am _ [0] (oi Z1) J J)
 rintro _ x1 rfl H;refine rc T 1 ?_
 cases H;exact p0 T J [0] J
def D4.f (w:Int) (h:Int) (p2:Int) (side:Int):Option Int:=((D1.f w h p2).bind λv3=>if(!v3)=true then(some true) else((nu.f side 0 4).bind λv4=>some (!v4))).bind λx1=>if x1=true then(some (-1)) else(if(¬w=0) then(if(¬w=0) then((if(side==0)=true then(some (af ((af (dm p2 w))-1))) else(some (af (dm p2 w)))).bind λx5=>(if(side==1)=true then(some (af ((fJ p2 w)+1))) else(some (fJ p2 w))).bind λx7=>(if(side==2)=true then(some (af (x5+1))) else(some x5)).bind λx9=>(if(side==3)=true then(some (af (x7-1))) else(some x7)).bind λbj=>((nu.f bj 0 (af (w-1))).bind λdC=>if(!dC)=true then(some true) else((nu.f x9 0 (af (h-1))).bind λcP=>some (!cP))).bind λaT=>if aT=true then(some (-1)) else(some (af ((af (x9*w))+bj)))) else none) else none)
theorem D4.c (H:D4.f w h p2 side=some r):
 QU 19 [(ii w),(ii h),(ii p2),(ii side)] [] F (ii r):=by
 unfold D4.f at H;refine aH Tryz.func19 J J (λW=>rc T 6 (mq H [0,1,2,3] [0] (λz2 (x1:Bool)=>(x1=z2,[(20,(bb x1))],[])) J J (λz2 Z1 _=>?_) ?_))
 ·refine rc T 4 (k [] J afu Z1 (D1.c ·) (λv3 Z1=>ro T 2 (ab 16 J Z1 (λZ1=>?_) (λZ1=>?_))))
  ·refine ro T 6 (am _ [0] (oi Z1) J J)
  refine ro T 1 (k [] J Br Z1 (nu.c ·) (λv4 Z1=>ro T 4 (am _ [0] (oi Z1) J J)))
 rintro _ x1 rfl H;refine cb J H (λH=>?_) (λH=>?_)
 ·refine rc T 7 ?_
  cases H;exact p0 T J [0] J
 refine rc T 3 (dy mix aA (au T J (au T J ?_)));obtain⟨c6,H⟩:=aF H;refine br J J J (vh J J J c6) (au T J (au T J ?_));obtain⟨c7,H⟩:=aF H;refine br J J J (vg J J J c7) (au T J (au T J (cU (rx T 1 (mq H [0,1,3,9] [0] (λz6 (x5:Int)=>(x5=z6,[(10,(ii x5))],[])) J J (λz6 Z8 _=>?_) ?_)))))
 ·refine rc T 6 (cb J Z8 (λZ8=>?_) (λZ8=>?_))
  ·refine rc T 6 (am _ [0] (oi Z8) J J)
  refine rc T 2 (am _ [0] (oi Z8) J J)
 rintro _ x5 rfl H;refine mq H [0,1,3,10] [0] (λz8 (x7:Int)=>(x7=z8,[(9,(ii x7))],[])) J J (λz8 jM _=>?_) ?_
 ·refine rc T 6 (cb J jM (λjM=>?_) (λjM=>?_))
  ·refine rc T 6 (am _ [0] (oi jM) J J)
  refine rc T 2 (am _ [0] (oi jM) J J)
 rintro _ x7 rfl H;refine mq H [0,1,3,9] [0] (λmS (x9:Int)=>(x9=mS,[(10,(ii x9))],[])) J J (λmS bp _=>?_) ?_
 ·refine rc T 6 (cb J bp (λbp=>?_) (λbp=>?_))
  ·refine rc T 6 (am _ [0] (oi bp) J J)
  refine rc T 2 (am _ [0] (oi bp) J J)
 rintro _ x9 rfl H;refine mq H [0,1,10] [0] (λz12 (bj:Int)=>(bj=z12,[(9,(ii bj))],[])) J J (λz12 cj _=>?_) ?_
 ·refine rc T 6 (cb J cj (λcj=>?_) (λcj=>?_))
  ·refine rc T 6 (am _ [0] (oi cj) J J)
  refine rc T 2 (am _ [0] (oi cj) J J)
 rintro _ bj rfl H;refine rc T 1 (mq H [0,9,10] [0] (λCl (aT:Bool)=>(aT=Cl,[(54,(bb aT))],[])) J J (λCl kB _=>?_) ?_)
 ·refine rc T 4 (k [] J Br kB (nu.c ·) (λdC kB=>ro T 2 (ab 48 J kB (λkB=>?_) (λkB=>?_))))
  ·refine ro T 8 (am _ [0] (oi kB) J J)
  refine ro T 3 (k [] J Br kB (nu.c ·) (λcP kB=>ro T 4 (am _ [0] (oi kB) J J)))
 rintro _ aT rfl H;refine cb J H (λH=>?_) (λH=>?_)
 ·refine rc T 7 ?_
  cases H;exact p0 T J [0] J
 refine rc T 13 ?_
 cases H;exact p0 T J [0] J
end
noncomputable section
def DD.f (x:Int) (y:Int):Option (Int×Int):=some ((fc ((fc ((fc ((fS x (2^32))*(fS y (2^32))))+(fS (fc ((fc ((fS x (2^32))*(fc (gi (b_ (IntKind.bits .u64) y&&&b_ (IntKind.bits .u64) 4294967295)))))+(fS (fc ((fc (gi (b_ (IntKind.bits .u64) x&&&b_ (IntKind.bits .u64) 4294967295)))*(fc (gi (b_ (IntKind.bits .u64) y&&&b_ (IntKind.bits .u64) 4294967295))))) (2^32)))) (2^32))))+(fS (fc ((fc (gi (b_ (IntKind.bits .u64) (fc ((fc ((fS x (2^32))*(fc (gi (b_ (IntKind.bits .u64) y&&&b_ (IntKind.bits .u64) 4294967295)))))+(fS (fc ((fc (gi (b_ (IntKind.bits .u64) x&&&b_ (IntKind.bits .u64) 4294967295)))*(fc (gi (b_ (IntKind.bits .u64) y&&&b_ (IntKind.bits .u64) 4294967295))))) (2^32))))&&&b_ (IntKind.bits .u64) 4294967295)))+(fc ((fc (gi (b_ (IntKind.bits .u64) x&&&b_ (IntKind.bits .u64) 4294967295)))*(fS y (2^32)))))) (2^32)))),(fc (x*y)))
theorem DD.c (H:DD.f x y=some r):
 QU 269 [(uu x),(uu y)] [] F (.tuple #[(uu r.1),(uu r.2)]):=by
 unfold DD.f at H;refine aH Tryz.func269 J J (λW=>rc T 99 ?_)
 cases H;exact p0 T J [0] J
def uv.f (x:Int) (y:Int):Option (Int×Int):=(DD.f x y).bind λv1=>some (v1.1,v1.2)
theorem uv.c (H:uv.f x y=some r):
 QU 239 [(uu x),(uu y)] [] F (.tuple #[(uu r.1),(uu r.2)]):=by
 unfold uv.f at H;refine aH Tryz.func239 J J (λW=>rc T 7 (fj J (rc T 6 (k [] J afa H (DD.c ·) (λv1 H=>ro T 16 ?_)))))
 cases H;exact p0 T J [0] J
def IB.f (x:Int):Option Int:=(if x≥4294967296 then(some ((fS x (2^32)),(32:Int))) else(some (x,(0:Int)))).bind λ(x1,x2)=>(if x1≥65536 then(some ((fS x1 (2^16)),(af (x2+16)))) else(some (x1,x2))).bind λ(x4,x5)=>if x4≥256 then(if(0<=(bP (fS x4 (2^8)))/\(bP (fS x4 (2^8)))<(aa F5:Int)) then(some (af ((af (x5+8))+(af (rd F5 (bP (fS x4 (2^8)))))))) else none) else(if(0<=(bP x4)/\(bP x4)<(aa F5:Int)) then(some (af (x5+(af (rd F5 (bP x4)))))) else none)
theorem IB.c (H:IB.f x=some r):
 QU 264 [(uu x)] [] F (ii r):=by
 unfold IB.f at H;refine aH Tryz.func264 J J (λW=>rc T 5 (mq H [] [0] (λz3 (⟨x1,x2⟩:Int×Int)=>((x1,x2)=z3,[(0,(uu x1)),(2,(ii x2))],[])) J J (λz3 Z1 _=>?_) ?_))
 ·refine rc T 6 (cd J Z1 (λZ1=>?_) (λZ1=>?_))
  ·refine rc T 11 (am (_,_) [0] (oi Z1) J J)
  refine rc T 2 (am (_,_) [0] (oi Z1) J J)
 rintro _ ⟨x1,x2⟩ rfl H;refine mq H [] [0] (λz6 (⟨x4,x5⟩:Int×Int)=>((x4,x5)=z6,[(0,(uu x4)),(2,(ii x5))],[])) J J (λz6 Z3 _=>?_) ?_
 ·refine rc T 6 (cd J Z3 (λZ3=>?_) (λZ3=>?_))
  ·refine rc T 13 (am (_,_) [0] (oi Z3) J J)
  refine rc T 2 (am (_,_) [0] (oi Z3) J J)
 rintro _ ⟨x4,x5⟩ rfl H;refine rc T 7 (cd J H (λH=>?_) (λH=>?_))
 ·refine rc T 18 ?_;obtain⟨c6,H⟩:=aF H;refine bz J (TP T F5 J J J J J c6) (ro T 6 ?_)
  cases H;exact p0 T J [0] J
 refine rc T 7 ?_;obtain⟨c7,H⟩:=aF H;refine bz J (TP T F5 J J J J J c7) (ro T 6 ?_)
 cases H;exact p0 T J [0] J
def IA.f (x:Int):Option Int:=(IB.f x).bind λv1=>some v1
theorem IA.c (H:IA.f x=some r):
 QU 235 [(uu x)] [] F (ii r):=by
 unfold IA.f at H;refine aH Tryz.func235 J J (λW=>rc T 6 (fj J (rc T 5 (k [] J ae9 H (IB.c ·) (λv1 H=>ro T 4 ?_)))))
 cases H;exact p0 T J [0] J
end
noncomputable section
def kX.l0:Nat->(Int×Int)->Int->List Int->Int->Option (List Int)
 |0,_,_,_,_=>none
 |qS+1,v1,x2,x9,aN=>if aN<(af v1.2) then(if(0<=aN/\aN<=(aa x9:Int)/\(aa x9:Int)<=(aa x9:Int)) then(if(0<=(0:Int)/\(0:Int)<=(if x2<aN then x2 else aN)/\(if x2<aN then x2 else aN)<=(aa x9:Int)) then(kX.l0 qS v1 x2 (cC x9 (ax aN) (min (aa (aB x9 0 (if x2<aN then x2 else aN))) (aa (aB x9 aN (aa x9:Int)))) (aB x9 0 (if x2<aN then x2 else aN))) (af (aN+(((min (aa (aB x9 0 (if x2<aN then x2 else aN))) (aa (aB x9 aN (aa x9:Int)))):Nat):Int)))) else none) else none) else(some x9)
def kX.f (b:(List Int)) (count:Int):Option (List Int):=if(count==0)=true then(some ([]:List Int)) else(if count<0 then(none) else((uv.f (fc (aa b:Int)) (fc count)).bind λv1=>if((decide (v1.1>0))||(decide (v1.2>9223372036854775807)))=true then(none) else(if((aa b:Int)==0)=true then(some ([]:List Int)) else((if(af v1.2)>8192 then(if(¬(aa b:Int)=0) then(if((af ((af (dm 8192 (aa b:Int)))*(aa b:Int)))==0)=true then(some (aa b:Int)) else(some (af ((af (dm 8192 (aa b:Int)))*(aa b:Int))))) else none) else(some (af v1.2))).bind λx2=>if(0<=(af v1.2)/\(af v1.2)<=1099511627776) then(GH (L8 (af v1.2)) (λx4=>if((af v1.2)=(aa x4:Int)) then((kX.l0 fuel v1 x2 (cC x4 0 (min (aa b) (aa x4)) b) (((min (aa b) (aa x4)):Nat):Int)).bind λx5=>some x5) else none)) else none))))
def kX.R (r:(List Int)):bm:=λu G=> ∃a0 n0 H0,ak (Fl.int .u8) 5 r a0 n0 H0/\u=(ll a0 r n0)/\G=[H0]
theorem kX.c (H:kX.f b count=some r) (iH:aU (Fl.int .u8) b kE F) (gN:aa b<=ki):
 QR 280 [(ll kE b ki),(ii count)] [] [] F (kX.R r):=by
 unfold kX.f at H;refine aH Tryz.func280 J J (λW=>rc T 12 (cb J H (λH=>?_) (λH=>?_)))
 ·refine rc T 2 (ba (dp (k:=(Fl.int .u8)) T ([]:List Int) J J J J J J J J J (λa1 H1 s1=>ro T 5 ?_)))
  cases H;exact p1 T J [1,0] ⟨a1,(aa ([]:List Int)),H1,s1,J,J⟩ J
 refine rc T 9 (cd J H (λH=>?_) (λH=>?_))
 ·cases H
 refine rc T 9 (k [] J OR H (uv.c ·) (λv1 H=>ro T 13 (go T [3,4,5] 29 [0,6] 32 J J J J J J J (ro T 2 (cb J H (λH=>?_) (λH=>?_))))))
 ·cases H
 refine rc T 17 (cb J H (λH=>?_) (λH=>?_))
 ·refine rc T 2 (ba (dp (k:=(Fl.int .u8)) T ([]:List Int) J J J J J J J J J (λa2 H2 s2=>ro T 5 ?_)))
  cases H;exact p1 T J [1,0] ⟨a2,(aa ([]:List Int)),H2,s2,J,J⟩ J
 refine rc T 8 (mq H [0,7] [0] (λz3 (x2:Int)=>(x2=z3,[(8,(ii x2))],[])) J J (λz3 Z6 _=>?_) ?_)
 ·refine rc T 6 (cd J Z6 (λZ6=>?_) (λZ6=>?_))
  ·refine rc T 4 ?_;obtain⟨c8,Z6⟩:=aF Z6;refine bz J (vg J J J c8) (ro T 12 (cb J Z6 (λZ6=>?_) (λZ6=>?_)))
   ·refine rc T 6 (am _ [0] (oi Z6) J J)
   refine rc T 2 (am _ [0] (oi Z6) J J)
  refine rc T 2 (am _ [0] (oi Z6) J J)
 rintro _ x2 rfl H;refine rc T 3 ?_;obtain⟨iX,H⟩:=aF H;refine ba (aba T J J J J agy J iX (λx4 a3 n3 H3 p3_ s3=>?_));replace H:=aas H p3_;refine ro T 2 ?_;obtain⟨eQ,H⟩:=aF H;refine bz J (ady T J J J J J J eQ s3.ck) (ro T 7 ?_);have RE:0+(aa x4)<=aa x4:=(Od _);refine ba (CI (k:=(Fl.int .u8)) (xs:=x4) (ys:=b) (lo:=0) (g:=1) T J J J J J J J J (ak.trim s3 (l7 _) s3.ck) (rO iH 0) (.inl ⟨J,J⟩) RE (λH4 s4=>kf [7,8,60] [0,0] [(9,(ll a3 (cC x4 0 (min (aa b) (aa x4)) b) (aa x4)))] J J ⟨(by first |rfl |(simp only[ll,my RE];rfl)),trivial⟩ (ro T 3 ?_)))
 refine mq H [] [0] (λz6 (⟨x5,a5,n5,H5⟩:List Int×Option Addr×Nat×Hp)=>(x5=z6/\ak (Fl.int .u8) 5 x5 a5 n5 H5,[(9,(ll a5 x5 n5))],[H5])) J J (λz6 ox _=>?_) ?_
 ·refine rc T 1 (lq [7,8] [0] (λ(⟨qS,x9,aN,a7,n7,H7⟩:Nat×List Int×Int×Option Addr×Nat×Hp)=>(kX.l0 qS v1 x2 x9 aN=some z6/\ak (Fl.int .u8) 5 x9 a7 n7 H7,[(9,(ll a7 x9 n7)),(10,(ii aN))],[H7])) J J (fuel,(cC x4 0 (min (aa b) (aa x4)) b),(((min (aa b) (aa x4)):Nat):Int),a3,(aa x4),H4) [0,0] ⟨ox,s4⟩ J J ?_);rintro qS ⟨x9,aN,a7,n7,H7⟩ ⟨cj,s7⟩;rw[kX.l0] at cj;refine rc T 8 (cd J cj (λcj=>?_) (λcj=>?_))
  ·refine rc T 11 (fz J (rz [7] mix (bU bT) (λhg pf=>ha T 7 [0,1,2] sz hg pf J ?_)));obtain⟨mw,cj⟩:=aF cj;refine av 3 sz hg pf J (lb T J J J J J J mw s7.ck) (ha T 4 [4,5] sz hg pf J ?_);obtain⟨l9,cj⟩:=aF cj;refine av 6 sz hg pf J (lb T J J J J J J l9 s7.ck) (ao 7 ?_);have EB:(ax aN)+(aa (aB x9 aN (aa x9:Int)))<=aa x9:=(Jl mw);refine CI (k:=(Fl.int .u8)) (xs:=x9) (ys:=(aB x9 0 (if x2<aN then x2 else aN))) (lo:=(ax aN)) (g:=1) T J J J J J J J J s7 (od (oO s7 1) l9 s7.ck) (.inr J) EB (λH8 s8=>?_)
   have JZ:(0<=aN/\aN<=(aa x9:Int)/\(aa x9:Int)<=(aa (cC x9 (ax aN) (min (aa (aB x9 0 (if x2<aN then x2 else aN))) (aa (aB x9 aN (aa x9:Int)))) (aB x9 0 (if x2<aN then x2 else aN))):Int)):=by simp only[my EB];exact mw
   have Z':(0<=(0:Int)/\(0:Int)<=(if x2<aN then x2 else aN)/\(if x2<aN then x2 else aN)<=(aa (cC x9 (ax aN) (min (aa (aB x9 0 (if x2<aN then x2 else aN))) (aa (aB x9 aN (aa x9:Int)))) (aB x9 0 (if x2<aN then x2 else aN))):Int)):=by simp only[my EB];exact l9
   refine kf [7,8,10,11,67,69,72,74] [0,0] [(9,(ll a7 (cC x9 (ax aN) (min (aa (aB x9 0 (if x2<aN then x2 else aN))) (aa (aB x9 aN (aa x9:Int)))) (aB x9 0 (if x2<aN then x2 else aN))) n7)),(68,(ll a7 (cC x9 (ax aN) (min (aa (aB x9 0 (if x2<aN then x2 else aN))) (aa (aB x9 aN (aa x9:Int)))) (aB x9 0 (if x2<aN then x2 else aN))) n7)),(70,(ll (gy a7 n7 (ax aN) 1) (aB (cC x9 (ax aN) (min (aa (aB x9 0 (if x2<aN then x2 else aN))) (aa (aB x9 aN (aa x9:Int)))) (aB x9 0 (if x2<aN then x2 else aN))) aN (aa x9:Int)) (n7-ax aN))),(71,(ll a7 (cC x9 (ax aN) (min (aa (aB x9 0 (if x2<aN then x2 else aN))) (aa (aB x9 aN (aa x9:Int)))) (aB x9 0 (if x2<aN then x2 else aN))) n7)),(73,(ll (gy a7 n7 (ax 0) 1) (aB (cC x9 (ax aN) (min (aa (aB x9 0 (if x2<aN then x2 else aN))) (aa (aB x9 aN (aa x9:Int)))) (aB x9 0 (if x2<aN then x2 else aN))) 0 (if x2<aN then x2 else aN)) (n7-ax 0)))] J J ⟨(by first |rfl |(simp only[ll,my EB];rfl)),(by first |rfl |(simp only[ll,my EB];rfl)),(by simp only[ll];rw[je JZ,<-je mw];rfl),(by first |rfl |(simp only[ll,my EB];rfl)),(by simp only[ll];rw[je Z',<-je l9];rfl),trivial⟩ (an sl (hb T 8 sl hg pf J (hb T 9 sl hg pf J (ae (rx T 2 ?_)))))
   exact ar (_,_,_,_,_) [0,0] ⟨cj,s8⟩ J J
  refine rc T 5 (am (_,_,_,_) [0,0] ⟨oi cj,s7⟩ J J)
 rintro _ ⟨x5,a5,n5,H5⟩ ⟨rfl,s5⟩ H;refine rc T 7 ?_
 cases H;exact p1 T J [1,0] ⟨a5,n5,H5,s5,J,J⟩ J
def EP.f (a:(List Int)) (b:(List Int)):Option Bool:=some (En a b)
theorem EP.c (H:EP.f a b=some r) (E8:aU (Fl.int .u8) a Gz F) (NI:aa a<=IK) (iH:aU (Fl.int .u8) b kE F) (gN:aa b<=ki):
 QU 254 [(ll Gz a IK),(ll kE b ki)] [] F (bb r):=by
 unfold EP.f at H;refine aH Tryz.func254 J J (λW=>rc T 8 (bz J (TQ T J J J J J (rO E8 0)) (ro T 1 (bz J (TQ T J J J J J (rO iH 0)) (bz J (adx J J J) (ro T 4 ?_))))))
 cases H;exact p0 T J [0] J
end
noncomputable section
def cmp_isNaN_int.f (x:Int):Option Bool:=some (x !=x)
theorem cmp_isNaN_int.c (H:cmp_isNaN_int.f x=some r):
 QU 265 [(ii x)] [] F (bb r):=by
 unfold cmp_isNaN_int.f at H;refine aH Tryz.func265 J J (λW=>rc T 14 ?_)
 cases H;exact p0 T J [0] J
def uf.f (x:Int) (y:Int):Option Int:=(cmp_isNaN_int.f x).bind λv1=>(cmp_isNaN_int.f y).bind λv2=>if v1=true then(if v2=true then(some 0) else(some (-1))) else(if v2=true then(some 1) else(if x<y then(some (-1)) else(if x>y then(some 1) else(some 0))))
theorem uf.c (H:uf.f x y=some r):
 QU 237 [(ii x),(ii y)] [] F (ii r):=by
 unfold uf.f at H;refine aH Tryz.func237 J J (λW=>rc T 8 (k [] J K5 H (cmp_isNaN_int.c ·) (λv1 H=>ro T 6 (k [] J K5 H (cmp_isNaN_int.c ·) (λv2 H=>ro T 9 (cb J H (λH=>?_) (λH=>?_)))))))
 ·refine rc T 6 (cb J H (λH=>?_) (λH=>?_))
  ·refine rc T 8 ?_
   cases H;exact p0 T J [0] J
  refine rc T 9 ?_
  cases H;exact p0 T J [0] J
 refine rc T 8 (cb J H (λH=>?_) (λH=>?_))
 ·refine rc T 7 ?_
  cases H;exact p0 T J [0] J
 refine rc T 10 (cd J H (λH=>?_) (λH=>?_))
 ·refine rc T 7 ?_
  cases H;exact p0 T J [0] J
 refine rc T 10 (cd J H (λH=>?_) (λH=>?_))
 ·refine rc T 7 ?_
  cases H;exact p0 T J [0] J
 refine rc T 8 ?_
 cases H;exact p0 T J [0] J
def nM.l0:Nat->(List Int)->Int->Option Int
 |0,_,_=>none
 |k3+1,u5,x2=>if x2<(aa u5:Int) then(if(0<=x2/\x2<(aa u5:Int)) then(if((rd u5 x2)!=0)=true then(some (rd u5 x2)) else(nM.l0 k3 u5 (af (x2+1)))) else none) else(some 0)
def nM.f (u5:(List Int)):Option Int:=nM.l0 fuel u5 0
theorem nM.c (H:nM.f u5=some r) (Uu:aU (Fl.int .i64) u5 aag F) (alm:aa u5<=ahN):
 QU 236 [(ll aag u5 ahN)] [] F (ii r):=by
 unfold nM.f at H;refine aH Tryz.func236 J J (λW=>rc T 19 (lq [3,6,7] [0] (λ(⟨k3,x2⟩:Nat×Int)=>(nM.l0 k3 u5 x2=some r,[(8,(ii x2))],[])) J J (fuel,0) [0] H J J ?_));rintro k3 x2 Z1;replace Z1:nM.l0 (k3+1) u5 x2=some r:=Z1;rw[nM.l0] at Z1;refine rc T 6 (cd J Z1 (λZ1=>?_) (λZ1=>?_))
 ·refine rc T 6 ?_;obtain⟨c3,Z1⟩:=aF Z1;obtain⟨q1,o1,e1⟩:=Uu.addr c3.1 c3.2;refine ix T J e1 c3 (le T 0 (rO Uu 0) e1 c3 J J (ro T 10 (cb J Z1 (λZ1=>?_) (λZ1=>?_))))
  ·refine rc T 12 ?_
   cases Z1;exact p0 T J [0] J
  refine rc T 8 (ar _ [0] Z1 J J)
 refine rc T 12 ?_
 cases Z1;exact p0 T J [0] J
def cmp_Less_int.f (x:Int) (y:Int):Option Bool:=((cmp_isNaN_int.f x).bind λv3=>if v3=true then((cmp_isNaN_int.f y).bind λv4=>some ((!v4)||(decide (x<y)))) else(some (decide (x<y)))).bind λx1=>some x1
theorem cmp_Less_int.c (H:cmp_Less_int.f x y=some r):
 QU 300 [(ii x),(ii y)] [] F (bb r):=by
 unfold cmp_Less_int.f at H;refine aH Tryz.func300 J J (λW=>rc T 5 (mq H [] [0] (λz2 (x1:Bool)=>(x1=z2,[(4,(bb x1))],[])) J J (λz2 Z1 _=>?_) ?_))
 ·refine rc T 2 (k [] J K5 Z1 (cmp_isNaN_int.c ·) (λv3 Z1=>ro T 1 (ab 7 J Z1 (λZ1=>?_) (λZ1=>?_))))
  ·refine ro T 1 (k [] J K5 Z1 (cmp_isNaN_int.c ·) (λv4 Z1=>ro T 3 (go T [8,9,10,11] 12 [] 16 J J J J J J J (ro T 3 (am _ [0] (oi Z1) J J)))))
  refine ro T 12 (am _ [0] (oi Z1) J J)
 rintro _ x1 rfl H;refine rc T 1 ?_
 cases H;exact p0 T J [0] J
end
noncomputable section
def su.l0:Nat->(List Int)->Int->Int->Option Int
 |0,_,_,_=>none
 |k3+1,s,v,x2=>if x2<(aa s:Int) then(if(0<=x2/\x2<(aa s:Int)) then(if(v==(rd s x2))=true then(some x2) else(su.l0 k3 s v (af (x2+1)))) else none) else(some (-1))
def su.f (s:(List Int)) (v:Int):Option Int:=su.l0 fuel s v 0
theorem su.c (H:su.f s v=some r) (jQ:aU (Fl.int .u8) s jl F) (sQ:aa s<=jt):
 QU 231 [(ll jl s jt),(.int .u8 v)] [] F (ii r):=by
 unfold su.f at H;refine aH Tryz.func231 J J (λW=>rc T 14 (lq [0,1,7] [0] (λ(⟨k3,x2⟩:Nat×Int)=>(su.l0 k3 s v x2=some r,[(8,(ii x2))],[])) J J (fuel,0) [0] H J J ?_));rintro k3 x2 Z1;replace Z1:su.l0 (k3+1) s v x2=some r:=Z1;rw[su.l0] at Z1;refine rc T 6 (cd J Z1 (λZ1=>?_) (λZ1=>?_))
 ·refine rc T 15 ?_;obtain⟨c3,Z1⟩:=aF Z1;obtain⟨q1,o1,e1⟩:=jQ.addr c3.1 c3.2;refine ix T J e1 c3 (le T 0 (rO jQ 0) e1 c3 J J (ro T 3 (cb J Z1 (λZ1=>?_) (λZ1=>?_))))
  ·refine rc T 12 ?_
   cases Z1;exact p0 T J [0] J
  refine rc T 8 (ar _ [0] Z1 J J)
 refine rc T 11 ?_
 cases Z1;exact p0 T J [0] J
def xx.f (s:(List Int)) (v:Int):Option Bool:=(su.f s v).bind λv1=>some (decide (v1≥0))
theorem xx.c (H:xx.f s v=some r) (jQ:aU (Fl.int .u8) s jl F) (sQ:aa s<=jt):
 QU 194 [(ll jl s jt),(.int .u8 v)] [] F (bb r):=by
 unfold xx.f at H;refine aH Tryz.func194 J J (λW=>rc T 9 (k [] J aeR H (su.c · (rO jQ 0) sQ) (λv1 H=>ro T 5 ?_)))
 cases H;exact p0 T J [0] J
def o_.f (s:(List Int)):Option (List Int):=if(aa ([]:List Int)+aa s<=1099511627776) then(some (([]:List Int)++s)) else none
def o_.R (r:(List Int)):bm:=λu G=> ∃a0 n0 H0,ak (Fl.int .u8) 5 r a0 n0 H0/\u=(ll a0 r n0)/\G=[H0]
theorem o_.c (H:o_.f s=some r) (jQ:aU (Fl.int .u8) s jl F) (sQ:aa s<=jt):
 QR 103 [(ll jl s jt)] [] [] F (o_.R r):=by
 unfold o_.f at H;refine aH Tryz.func103 J J (λW=>rc T 12 (CH J (λc1=>?_) (λc1=>?_)))
 ·have hx:s=[]:=Qd jQ c1;replace H:some []=some r:=by simpa[hx] using H
  refine rc T 7 ?_
  cases H;refine bC (p1 T J [1,0] ⟨none,0,[],ak.nil,J,J⟩ J)
 refine rc T 4 (ba (dp (k:=(Fl.int .u8)) T ([]:List Int) J J J J J J J J J (λa2 H2 s2=>ro T 1 ?_)));obtain⟨c2,H⟩:=aF H;refine ba (eP (k:=(Fl.int .u8)) (xs:=([]:List Int)) T (g:=1) J J J J J J J J J J s2 (rO jQ 0) c2 J (λa3 n3 H3 s3=>ro T 4 ?_))
 cases H;exact p1 T J [1,0] ⟨a3,n3,H3,s3,J,J⟩ J
def tI.f (s:(List a_)):Option (List a_):=if(aa ([]:List a_)+aa s<=1099511627776) then(some (([]:List a_)++s)) else none
def tI.R (r:(List a_)):bm:=λu G=> ∃a0 n0 H0,ak cW 285 r a0 n0 H0/\u=(ll a0 r n0)/\G=[H0]
theorem tI.c (H:tI.f s=some r) (jQ:aU cW s jl F) (sQ:aa s<=jt):
 QR 189 [(ll jl s jt)] [] [] F (tI.R r):=by
 unfold tI.f at H;refine aH Tryz.func189 J J (λW=>rc T 12 (CH J (λc1=>?_) (λc1=>?_)))
 ·have hx:s=[]:=Qd jQ c1;replace H:some []=some r:=by simpa[hx] using H
  refine rc T 7 ?_
  cases H;refine bC (p1 T J [1,0] ⟨none,0,[],ak.nil,J,J⟩ J)
 refine rc T 4 (ba (dp (k:=cW) T ([]:List a_) J J J J J J J J J (λa2 H2 s2=>ro T 1 ?_)));obtain⟨c2,H⟩:=aF H;refine ba (eP (k:=cW) (xs:=([]:List a_)) T (g:=1) J J J J J J J J J J s2 (rO jQ 0) c2 J (λa3 n3 H3 s3=>ro T 4 ?_))
 cases H;exact p1 T J [1,0] ⟨a3,n3,H3,s3,J,J⟩ J
def jY.l1:Nat->(List a_)->Int->List a_->Int->Int->Option (List a_)
 |0,_,_,_,_,_=>none
 |yy+1,s,x2,x7,x8,x9=>if x9<(aa (aB x7 x2 (aa s:Int)):Int) then(if(0<=x9/\x9<(aa (aB x7 x2 (aa s:Int)):Int)) then(if(0<=(af (x9-1))/\(af (x9-1))<(aa (aB x7 x2 (aa s:Int)):Int)) then(if(!(((rd (aB x7 x2 (aa s:Int)) x9).Cell==(rd (aB x7 x2 (aa s:Int)) (af (x9-1))).Cell)&&(((rd (aB x7 x2 (aa s:Int)) x9).cY==(rd (aB x7 x2 (aa s:Int)) (af (x9-1))).cY)&&(((rd (aB x7 x2 (aa s:Int)) x9).Key==(rd (aB x7 x2 (aa s:Int)) (af (x9-1))).Key)&&true))))=true then(if(0<=x8/\x8<(aa x7:Int)) then(jY.l1 yy s x2 (aG x7 (ax x8) (rd (aB x7 x2 (aa s:Int)) x9)) (af (x8+1)) (af (x9+1))) else none) else(jY.l1 yy s x2 x7 x8 (af (x9+1)))) else none) else none) else(if(0<=x8/\x8<=(aa x7:Int)/\(aa x7:Int)<=(aa x7:Int)) then(if(0<=(0:Int)/\(0:Int)<=x8/\x8<=(aa (cC x7 (ax x8) (aa (aB x7 x8 (aa x7:Int))) (cy (aa (aB x7 x8 (aa x7:Int))) (default:a_))):Int)) then(some (aB (cC x7 (ax x8) (aa (aB x7 x8 (aa x7:Int))) (cy (aa (aB x7 x8 (aa x7:Int))) (default:a_))) 0 x8)) else none) else none)
def jY.l0:Nat->(List a_)->Int->Option (List a_)
 |0,_,_=>none
 |k3+1,s,x2=>if x2<(aa s:Int) then(if(0<=x2/\x2<(aa s:Int)) then(if(0<=(af (x2-1))/\(af (x2-1))<(aa s:Int)) then(if(((rd s x2).Cell==(rd s (af (x2-1))).Cell)&&(((rd s x2).cY==(rd s (af (x2-1))).cY)&&(((rd s x2).Key==(rd s (af (x2-1))).Key)&&true)))=true then(if(0<=x2/\x2<=(aa s:Int)/\(aa s:Int)<=(aa s:Int)) then(jY.l1 fuel s x2 s x2 1) else none) else(jY.l0 k3 s (af (x2+1)))) else none) else none) else(some s)
def jY.f (s:(List a_)):Option (List a_):=if(aa s:Int)<2 then(some s) else(jY.l0 fuel s 1)
def jY.R (r:(List a_)):bm:=λu G=> ∃a0 n0 H0,ak cW 285 r a0 n0 H0/\u=(ll a0 r n0)/\G=[H0]
theorem jY.c (H:jY.f s=some r) (dg:ak cW 285 s jl jt eI):
 QR 210 [(ll jl s jt)] [eI] [] F (jY.R r):=by
 unfold jY.f at H;refine aH Tryz.func210 J J (λW=>rc T 13 (cd J H (λH=>?_) (λH=>?_)))
 ·refine rc T 8 ?_
  cases H;exact p1 T J [0,0] ⟨jl,jt,eI,dg,J,J⟩ J
 refine rc T 9 (lq [0] [1,0] (λ(⟨k3,x2⟩:Nat×Int)=>(jY.l0 k3 s x2=some r,[(3,(ii x2))],[])) J J (fuel,1) [1,0] H J J ?_);rintro k3 x2 Z2;replace Z2:jY.l0 (k3+1) s x2=some r:=Z2;rw[jY.l0] at Z2;refine rc T 9 (cd J Z2 (λZ2=>?_) (λZ2=>?_))
 ·refine rc T 5 (dy mix aA (au T J (au T J ?_)));obtain⟨c4,Z2⟩:=aF Z2;obtain⟨q2,o2,e2⟩:=dg.r.addr c4.1 c4.2;refine br J J J (cV T J J J J J e2 c4.1 c4.2) (br J J J (gp T (cs:=[(ii (rd s x2).Cell),(ii (rd s x2).cY),(ii (rd s x2).Key)]) J J J J J J (iI (k:=cW) (oO dg 1) e2 c4 J)) (au T J (au T J (au T J ?_))));obtain⟨c5,Z2⟩:=aF Z2;refine br J J J (cV T J J J J J e2 c5.1 c5.2) (br J J J (gp T (cs:=[(ii (rd s (af (x2-1))).Cell),(ii (rd s (af (x2-1))).cY),(ii (rd s (af (x2-1))).Key)]) J J J J J J (iI (k:=cW) (oO dg 1) e2 c5 J)) (br J J J (ads T (((rd s x2).Cell==(rd s (af (x2-1))).Cell)&&(((rd s x2).cY==(rd s (af (x2-1))).cY)&&(((rd s x2).Key==(rd s (af (x2-1))).Key)&&true))) J J J J Q6 aA J) (cU (rx T 1 (cb J Z2 (λZ2=>?_) (λZ2=>?_))))))
  ·refine rc T 4 ?_;obtain⟨c7,Z2⟩:=aF Z2;refine bz J (lb T J J J J J J c7 dg.ck) (ro T 10 (lq [] [0] (λ(⟨yy,x7,x8,x9,a5,n5,H5⟩:Nat×List a_×Int×Int×Option Addr×Nat×Hp)=>(jY.l1 yy s x2 x7 x8 x9=some r/\ak cW 285 x7 a5 n5 H5/\(0<=x2/\x2<=(aa s:Int)/\(aa s:Int)<=(aa x7:Int)),[(0,(ll a5 x7 n5)),(3,(ii x8)),(4,(ll (gy a5 n5 (ax x2) 3) (aB x7 x2 (aa s:Int)) (n5-ax x2))),(5,(ii x9))],[H5])) J J (fuel,s,x2,1,jl,jt,eI) [0,0] ⟨Z2,dg,c7⟩ J J ?_));rintro yy ⟨x7,x8,x9,a5,n5,H5⟩ ⟨Z8,s5,AQ⟩;rw[jY.l1] at Z8;refine rc T 9 (cd J Z8 (λZ8=>?_) (λZ8=>?_))
   ·refine rc T 5 (dy mix aA (au T J (au T J ?_)));obtain⟨iX,Z8⟩:=aF Z8;obtain⟨q7,o7,e7⟩:=(od s5.r AQ s5.ck).addr iX.1 iX.2;refine br J J J (cV T J J J J J e7 iX.1 iX.2) (br J J J (gp T (cs:=[(ii (rd (aB x7 x2 (aa s:Int)) x9).Cell),(ii (rd (aB x7 x2 (aa s:Int)) x9).cY),(ii (rd (aB x7 x2 (aa s:Int)) x9).Key)]) J J J J J J (iI (k:=cW) (od (oO s5 1) AQ s5.ck) e7 iX J)) (au T J (au T J (au T J ?_))));obtain⟨eQ,Z8⟩:=aF Z8;refine br J J J (cV T J J J J J e7 eQ.1 eQ.2) (br J J J (gp T (cs:=[(ii (rd (aB x7 x2 (aa s:Int)) (af (x9-1))).Cell),(ii (rd (aB x7 x2 (aa s:Int)) (af (x9-1))).cY),(ii (rd (aB x7 x2 (aa s:Int)) (af (x9-1))).Key)]) J J J J J J (iI (k:=cW) (od (oO s5 1) AQ s5.ck) e7 eQ J)) (br J J J (Oe T (((rd (aB x7 x2 (aa s:Int)) x9).Cell==(rd (aB x7 x2 (aa s:Int)) (af (x9-1))).Cell)&&(((rd (aB x7 x2 (aa s:Int)) x9).cY==(rd (aB x7 x2 (aa s:Int)) (af (x9-1))).cY)&&(((rd (aB x7 x2 (aa s:Int)) x9).Key==(rd (aB x7 x2 (aa s:Int)) (af (x9-1))).Key)&&true))) J J J J Q6 aA J) (cU (rx T 1 (cb J Z8 (λZ8=>?_) (λZ8=>?_))))))
    ·refine rc T 6 (ix T J e7 iX (bz J (gp T (cs:=[(ii (rd (aB x7 x2 (aa s:Int)) x9).Cell),(ii (rd (aB x7 x2 (aa s:Int)) x9).cY),(ii (rd (aB x7 x2 (aa s:Int)) x9).Key)]) J J J J J J (iI (k:=cW) (od (oO s5 1) AQ s5.ck) e7 iX J)) ?_));obtain⟨jC,Z8⟩:=aF Z8;obtain⟨q8,o8,e8⟩:=s5.r.addr jC.1 jC.2;refine ix T J e8 jC (ba (lD (k:=cW) T 1 0 (rd (aB x7 x2 (aa s:Int)) x9) J J J J J J s5 e8 jC J J J (λH9 s9=>?_)));have RJ:(0<=x2/\x2<=(aa s:Int)/\(aa s:Int)<=(aa (aG x7 (ax x8) (rd (aB x7 x2 (aa s:Int)) x9)):Int)):=by simp only[mo];exact AQ
     have RK:(0<=x2/\x2<=(aa s:Int)/\(aa s:Int)<=(aa (aG x7 (ax x8) (rd (aB x7 x2 (aa s:Int)) x9)):Int)):=by simp only[mo];exact AQ
     refine kf [3,5] [0,0] [(0,(ll a5 (aG x7 (ax x8) (rd (aB x7 x2 (aa s:Int)) x9)) n5)),(4,(ll (gy a5 n5 (ax x2) 3) (aB (aG x7 (ax x8) (rd (aB x7 x2 (aa s:Int)) x9)) x2 (aa s:Int)) (n5-ax x2)))] J J ⟨dP,(by simp only[ll];rw[je RJ,<-je AQ];rfl),trivial⟩ (ro T 15 ?_)
     exact ar (_,_,_,_,_,_) [0,0] ⟨Z8,s9,RJ⟩ J J
    refine rc T 9 (ar (_,_,_,_,_,_) [0,0] ⟨Z8,s5,AQ⟩ J J)
   refine rc T 9 ?_;obtain⟨mw,Z8⟩:=aF Z8;refine bz J (lb T J J J J J J mw s5.ck) ?_;have JW:(ax x8)+(aa (aB x7 x8 (aa x7:Int)))<=aa x7:=(Jl mw);refine ba (aa0 (k:=cW) (xs:=x7) (lo:=(ax x8)) (g:=1) T (default:a_) J J J J J J J J s5 (.inr J) JW (λcu bX=>?_));have RL:(0<=x2/\x2<=(aa s:Int)/\(aa s:Int)<=(aa (cC x7 (ax x8) (aa (aB x7 x8 (aa x7:Int))) (cy (aa (aB x7 x8 (aa x7:Int))) (default:a_))):Int)):=by simp only[NO JW];exact AQ
   have JZ:(0<=x8/\x8<=(aa x7:Int)/\(aa x7:Int)<=(aa (cC x7 (ax x8) (aa (aB x7 x8 (aa x7:Int))) (cy (aa (aB x7 x8 (aa x7:Int))) (default:a_))):Int)):=by simp only[NO JW];exact mw
   refine kf [3] [0,0] [(0,(ll a5 (cC x7 (ax x8) (aa (aB x7 x8 (aa x7:Int))) (cy (aa (aB x7 x8 (aa x7:Int))) (default:a_))) n5))] J J ⟨(by first |rfl |(simp only[ll,NO JW];rfl)),trivial⟩ (ro T 6 ?_)
   obtain⟨uc,Z8⟩:=aF Z8;refine bz J (lb T J J J J J J uc bX.ck) (ro T 9 ?_)
   cases Z8;exact p1 T J [1,0] ⟨(gy a5 n5 (ax 0) 3),(n5-ax 0),cu,(ak.pre bX uc),J,J⟩ J
  refine rc T 9 (ar _ [0,0] Z2 J J)
 refine rc T 12 ?_
 cases Z2;exact p1 T J [1,0] ⟨jl,jt,eI,dg,J,J⟩ J
def kN.l0:Nat->List Int->Int->Option (List Int)
 |0,_,_=>none
 |k8+1,x6,x7=>if x7<(aa x6:Int) then(if(0<=x7/\x7<=(aa x6:Int)/\(aa x6:Int)<=(aa x6:Int)) then(if(0<=(0:Int)/\(0:Int)<=x7/\x7<=(aa x6:Int)) then(kN.l0 k8 (cC x6 (ax x7) (min (aa (aB x6 0 x7)) (aa (aB x6 x7 (aa x6:Int)))) (aB x6 0 x7)) (af (x7+(((min (aa (aB x6 0 x7)) (aa (aB x6 x7 (aa x6:Int)))):Nat):Int)))) else none) else none) else(some x6)
def kN.f (x:(List Int)) (count:Int):Option (List Int):=if count<0 then(none) else((uv.f (fc (aa x:Int)) (fc count)).bind λv1=>if((decide (v1.1>0))||(decide (v1.2>9223372036854775807)))=true then(none) else(if(0<=(af v1.2)/\(af v1.2)<=1099511627776) then((kN.l0 fuel (cC (cy (ax (af v1.2)) (0:Int)) 0 (min (aa x) (aa (cy (ax (af v1.2)) (0:Int)))) x) (((min (aa x) (aa (cy (ax (af v1.2)) (0:Int)))):Nat):Int)).bind λx2=>some x2) else none))
def kN.R (r:(List Int)):bm:=λu G=> ∃a0 n0 H0,ak (Fl.int .i64) 3 r a0 n0 H0/\u=(ll a0 r n0)/\G=[H0]
theorem kN.c (H:kN.f x count=some r) (zU:aU (Fl.int .i64) x GC F) (SL:aa x<=IP):
 QR 248 [(ll GC x IP),(ii count)] [] [] F (kN.R r):=by
 unfold kN.f at H;refine aH Tryz.func248 J J (λW=>rc T 12 (cd J H (λH=>?_) (λH=>?_)))
 ·cases H
 refine rc T 9 (k [] J OR H (uv.c ·) (λv1 H=>ro T 13 (go T [3,4,5] 23 [0,6] 26 J J J J J J J (ro T 2 (cb J H (λH=>?_) (λH=>?_))))))
 ·cases H
 refine rc T 6 ?_;obtain⟨c4,H⟩:=aF H;refine ba (zB (k:=(Fl.int .i64)) T (0:Int) J J J J J J J J c4 J (λa1 n1 H1 s1=>ro T 7 ?_));have L5:0+(aa (cy (ax (af v1.2)) (0:Int)))<=aa (cy (ax (af v1.2)) (0:Int)):=(Od _);refine ba (CI (k:=(Fl.int .i64)) (xs:=(cy (ax (af v1.2)) (0:Int))) (ys:=x) (lo:=0) (g:=1) T J J J J J J J J s1 (rO zU 0) (.inl ⟨J,J⟩) L5 (λH2 s2=>kf [33] [0,0] [(7,(ll a1 (cC (cy (ax (af v1.2)) (0:Int)) 0 (min (aa x) (aa (cy (ax (af v1.2)) (0:Int)))) x) n1))] J J ⟨(by first |rfl |(simp only[ll,my L5];rfl)),trivial⟩ (ro T 3 ?_)))
 refine mq H [] [0] (λz3 (⟨x2,a3,n3,H3⟩:List Int×Option Addr×Nat×Hp)=>(x2=z3/\ak (Fl.int .i64) 3 x2 a3 n3 H3,[(7,(ll a3 x2 n3))],[H3])) J J (λz3 Z6 _=>?_) ?_
 ·refine rc T 1 (lq [] [0] (λ(⟨k8,x6,x7,a5,n5,H5⟩:Nat×List Int×Int×Option Addr×Nat×Hp)=>(kN.l0 k8 x6 x7=some z3/\ak (Fl.int .i64) 3 x6 a5 n5 H5,[(7,(ll a5 x6 n5)),(8,(ii x7))],[H5])) J J (fuel,(cC (cy (ax (af v1.2)) (0:Int)) 0 (min (aa x) (aa (cy (ax (af v1.2)) (0:Int)))) x),(((min (aa x) (aa (cy (ax (af v1.2)) (0:Int)))):Nat):Int),a1,n1,H2) [0,0] ⟨Z6,s2⟩ J J ?_);rintro k8 ⟨x6,x7,a5,n5,H5⟩ ⟨Z7,s5⟩;rw[kN.l0] at Z7;refine rc T 9 (cd J Z7 (λZ7=>?_) (λZ7=>?_))
  ·refine rc T 3 (fz J (rz [7] mix (bU bT) (λhg pf=>ha T 7 [0,1,2] sz hg pf J ?_)));obtain⟨c9,Z7⟩:=aF Z7;refine av 3 sz hg pf J (lb T J J J J J J c9 s5.ck) (ha T 4 [4,5] sz hg pf J ?_);obtain⟨iX,Z7⟩:=aF Z7;refine av 6 sz hg pf J (lb T J J J J J J iX s5.ck) (ao 7 ?_);have tS:(ax x7)+(aa (aB x6 x7 (aa x6:Int)))<=aa x6:=(Jl c9);refine CI (k:=(Fl.int .i64)) (xs:=x6) (ys:=(aB x6 0 x7)) (lo:=(ax x7)) (g:=1) T J J J J J J J J s5 (od (oO s5 1) iX s5.ck) (.inr J) tS (λH6 s6=>?_);have M3:(0<=x7/\x7<=(aa x6:Int)/\(aa x6:Int)<=(aa (cC x6 (ax x7) (min (aa (aB x6 0 x7)) (aa (aB x6 x7 (aa x6:Int)))) (aB x6 0 x7)):Int)):=by simp only[my tS];exact c9
   have M4:(0<=(0:Int)/\(0:Int)<=x7/\x7<=(aa (cC x6 (ax x7) (min (aa (aB x6 0 x7)) (aa (aB x6 x7 (aa x6:Int)))) (aB x6 0 x7)):Int)):=by simp only[my tS];exact iX
   refine kf [8,37,38,40,43,45] [0,0] [(7,(ll a5 (cC x6 (ax x7) (min (aa (aB x6 0 x7)) (aa (aB x6 x7 (aa x6:Int)))) (aB x6 0 x7)) n5)),(39,(ll a5 (cC x6 (ax x7) (min (aa (aB x6 0 x7)) (aa (aB x6 x7 (aa x6:Int)))) (aB x6 0 x7)) n5)),(41,(ll (gy a5 n5 (ax x7) 1) (aB (cC x6 (ax x7) (min (aa (aB x6 0 x7)) (aa (aB x6 x7 (aa x6:Int)))) (aB x6 0 x7)) x7 (aa x6:Int)) (n5-ax x7))),(42,(ll a5 (cC x6 (ax x7) (min (aa (aB x6 0 x7)) (aa (aB x6 x7 (aa x6:Int)))) (aB x6 0 x7)) n5)),(44,(ll (gy a5 n5 (ax 0) 1) (aB (cC x6 (ax x7) (min (aa (aB x6 0 x7)) (aa (aB x6 x7 (aa x6:Int)))) (aB x6 0 x7)) 0 x7) (n5-ax 0)))] J J ⟨(by first |rfl |(simp only[ll,my tS];rfl)),(by first |rfl |(simp only[ll,my tS];rfl)),(by simp only[ll];rw[je M3,<-je c9];rfl),(by first |rfl |(simp only[ll,my tS];rfl)),(by simp only[ll];rw[je M4,<-je iX];rfl),trivial⟩ (an sl (hb T 8 sl hg pf J (hb T 9 sl hg pf J (ae (rx T 2 ?_)))))
   exact ar (_,_,_,_,_) [0,0] ⟨Z7,s6⟩ J J
  refine rc T 5 (am (_,_,_,_) [0,0] ⟨oi Z7,s5⟩ J J)
 rintro _ ⟨x2,a3,n3,H3⟩ ⟨rfl,s3⟩ H;refine rc T 7 ?_
 cases H;exact p1 T J [1,0] ⟨a3,n3,H3,s3,J,J⟩ J
def qx.l0:Nat->List Int->Int->Option (List Int)
 |0,_,_=>none
 |k8+1,x6,x7=>if x7<(aa x6:Int) then(if(0<=x7/\x7<=(aa x6:Int)/\(aa x6:Int)<=(aa x6:Int)) then(if(0<=(0:Int)/\(0:Int)<=x7/\x7<=(aa x6:Int)) then(qx.l0 k8 (cC x6 (ax x7) (min (aa (aB x6 0 x7)) (aa (aB x6 x7 (aa x6:Int)))) (aB x6 0 x7)) (af (x7+(((min (aa (aB x6 0 x7)) (aa (aB x6 x7 (aa x6:Int)))):Nat):Int)))) else none) else none) else(some x6)
def qx.f (x:(List Int)) (count:Int):Option (List Int):=if count<0 then(none) else((uv.f (fc (aa x:Int)) (fc count)).bind λv1=>if((decide (v1.1>0))||(decide (v1.2>9223372036854775807)))=true then(none) else(if(0<=(af v1.2)/\(af v1.2)<=1099511627776) then((qx.l0 fuel (cC (cy (ax (af v1.2)) (0:Int)) 0 (min (aa x) (aa (cy (ax (af v1.2)) (0:Int)))) x) (((min (aa x) (aa (cy (ax (af v1.2)) (0:Int)))):Nat):Int)).bind λx2=>some x2) else none))
def qx.R (r:(List Int)):bm:=λu G=> ∃a0 n0 H0,ak (Fl.int .i32) 21 r a0 n0 H0/\u=(ll a0 r n0)/\G=[H0]
theorem qx.c (H:qx.f x count=some r) (zU:aU (Fl.int .i32) x GC F) (SL:aa x<=IP):
 QR 212 [(ll GC x IP),(ii count)] [] [] F (qx.R r):=by
 unfold qx.f at H;refine aH Tryz.func212 J J (λW=>rc T 12 (cd J H (λH=>?_) (λH=>?_)))
 ·cases H
 refine rc T 9 (k [] J OR H (uv.c ·) (λv1 H=>ro T 13 (go T [3,4,5] 23 [0,6] 26 J J J J J J J (ro T 2 (cb J H (λH=>?_) (λH=>?_))))))
 ·cases H
 refine rc T 6 ?_;obtain⟨c4,H⟩:=aF H;refine ba (zB (k:=(Fl.int .i32)) T (0:Int) J J J J J J J J c4 J (λa1 n1 H1 s1=>ro T 7 ?_));have L5:0+(aa (cy (ax (af v1.2)) (0:Int)))<=aa (cy (ax (af v1.2)) (0:Int)):=(Od _);refine ba (CI (k:=(Fl.int .i32)) (xs:=(cy (ax (af v1.2)) (0:Int))) (ys:=x) (lo:=0) (g:=1) T J J J J J J J J s1 (rO zU 0) (.inl ⟨J,J⟩) L5 (λH2 s2=>kf [33] [0,0] [(7,(ll a1 (cC (cy (ax (af v1.2)) (0:Int)) 0 (min (aa x) (aa (cy (ax (af v1.2)) (0:Int)))) x) n1))] J J ⟨(by first |rfl |(simp only[ll,my L5];rfl)),trivial⟩ (ro T 3 ?_)))
 refine mq H [] [0] (λz3 (⟨x2,a3,n3,H3⟩:List Int×Option Addr×Nat×Hp)=>(x2=z3/\ak (Fl.int .i32) 21 x2 a3 n3 H3,[(7,(ll a3 x2 n3))],[H3])) J J (λz3 Z6 _=>?_) ?_
 ·refine rc T 1 (lq [] [0] (λ(⟨k8,x6,x7,a5,n5,H5⟩:Nat×List Int×Int×Option Addr×Nat×Hp)=>(qx.l0 k8 x6 x7=some z3/\ak (Fl.int .i32) 21 x6 a5 n5 H5,[(7,(ll a5 x6 n5)),(8,(ii x7))],[H5])) J J (fuel,(cC (cy (ax (af v1.2)) (0:Int)) 0 (min (aa x) (aa (cy (ax (af v1.2)) (0:Int)))) x),(((min (aa x) (aa (cy (ax (af v1.2)) (0:Int)))):Nat):Int),a1,n1,H2) [0,0] ⟨Z6,s2⟩ J J ?_);rintro k8 ⟨x6,x7,a5,n5,H5⟩ ⟨Z7,s5⟩;rw[qx.l0] at Z7;refine rc T 9 (cd J Z7 (λZ7=>?_) (λZ7=>?_))
  ·refine rc T 3 (fz J (rz [7] mix (bU bT) (λhg pf=>ha T 7 [0,1,2] sz hg pf J ?_)));obtain⟨c9,Z7⟩:=aF Z7;refine av 3 sz hg pf J (lb T J J J J J J c9 s5.ck) (ha T 4 [4,5] sz hg pf J ?_);obtain⟨iX,Z7⟩:=aF Z7;refine av 6 sz hg pf J (lb T J J J J J J iX s5.ck) (ao 7 ?_);have tS:(ax x7)+(aa (aB x6 x7 (aa x6:Int)))<=aa x6:=(Jl c9);refine CI (k:=(Fl.int .i32)) (xs:=x6) (ys:=(aB x6 0 x7)) (lo:=(ax x7)) (g:=1) T J J J J J J J J s5 (od (oO s5 1) iX s5.ck) (.inr J) tS (λH6 s6=>?_);have M3:(0<=x7/\x7<=(aa x6:Int)/\(aa x6:Int)<=(aa (cC x6 (ax x7) (min (aa (aB x6 0 x7)) (aa (aB x6 x7 (aa x6:Int)))) (aB x6 0 x7)):Int)):=by simp only[my tS];exact c9
   have M4:(0<=(0:Int)/\(0:Int)<=x7/\x7<=(aa (cC x6 (ax x7) (min (aa (aB x6 0 x7)) (aa (aB x6 x7 (aa x6:Int)))) (aB x6 0 x7)):Int)):=by simp only[my tS];exact iX
   refine kf [8,37,38,40,43,45] [0,0] [(7,(ll a5 (cC x6 (ax x7) (min (aa (aB x6 0 x7)) (aa (aB x6 x7 (aa x6:Int)))) (aB x6 0 x7)) n5)),(39,(ll a5 (cC x6 (ax x7) (min (aa (aB x6 0 x7)) (aa (aB x6 x7 (aa x6:Int)))) (aB x6 0 x7)) n5)),(41,(ll (gy a5 n5 (ax x7) 1) (aB (cC x6 (ax x7) (min (aa (aB x6 0 x7)) (aa (aB x6 x7 (aa x6:Int)))) (aB x6 0 x7)) x7 (aa x6:Int)) (n5-ax x7))),(42,(ll a5 (cC x6 (ax x7) (min (aa (aB x6 0 x7)) (aa (aB x6 x7 (aa x6:Int)))) (aB x6 0 x7)) n5)),(44,(ll (gy a5 n5 (ax 0) 1) (aB (cC x6 (ax x7) (min (aa (aB x6 0 x7)) (aa (aB x6 x7 (aa x6:Int)))) (aB x6 0 x7)) 0 x7) (n5-ax 0)))] J J ⟨(by first |rfl |(simp only[ll,my tS];rfl)),(by first |rfl |(simp only[ll,my tS];rfl)),(by simp only[ll];rw[je M3,<-je c9];rfl),(by first |rfl |(simp only[ll,my tS];rfl)),(by simp only[ll];rw[je M4,<-je iX];rfl),trivial⟩ (an sl (hb T 8 sl hg pf J (hb T 9 sl hg pf J (ae (rx T 2 ?_)))))
   exact ar (_,_,_,_,_) [0,0] ⟨Z7,s6⟩ J J
  refine rc T 5 (am (_,_,_,_) [0,0] ⟨oi Z7,s5⟩ J J)
 rintro _ ⟨x2,a3,n3,H3⟩ ⟨rfl,s3⟩ H;refine rc T 7 ?_
 cases H;exact p1 T J [1,0] ⟨a3,n3,H3,s3,J,J⟩ J
def ri.f (s:(List Int)):Option (List Int):=if(aa ([]:List Int)+aa s<=1099511627776) then(some (([]:List Int)++s)) else none
def ri.R (r:(List Int)):bm:=λu G=> ∃a0 n0 H0,ak (Fl.int .i64) 3 r a0 n0 H0/\u=(ll a0 r n0)/\G=[H0]
theorem ri.c (H:ri.f s=some r) (jQ:aU (Fl.int .i64) s jl F) (sQ:aa s<=jt):
 QR 227 [(ll jl s jt)] [] [] F (ri.R r):=by
 unfold ri.f at H;refine aH Tryz.func227 J J (λW=>rc T 12 (CH J (λc1=>?_) (λc1=>?_)))
 ·have hx:s=[]:=Qd jQ c1;replace H:some []=some r:=by simpa[hx] using H
  refine rc T 7 ?_
  cases H;refine bC (p1 T J [1,0] ⟨none,0,[],ak.nil,J,J⟩ J)
 refine rc T 4 (ba (dp (k:=(Fl.int .i64)) T ([]:List Int) J J J J J J J J J (λa2 H2 s2=>ro T 1 ?_)));obtain⟨c2,H⟩:=aF H;refine ba (eP (k:=(Fl.int .i64)) (xs:=([]:List Int)) T (g:=1) J J J J J J J J J J s2 (rO jQ 0) c2 J (λa3 n3 H3 s3=>ro T 4 ?_))
 cases H;exact p1 T J [1,0] ⟨a3,n3,H3,s3,J,J⟩ J
def B2.f (x:Int):Option Bool:=some (x !=x)
theorem B2.c (H:B2.f x=some r):
 QU 301 [(ii x)] [] F (bb r):=by
 unfold B2.f at H;refine aH Tryz.func301 J J (λW=>rc T 14 ?_)
 cases H;exact p0 T J [0] J
def pI.l0:Nat->(List Int)->Int->Int->Int->Option Int
 |0,_,_,_,_=>none
 |k7+1,x,target,x5,x6=>if x5<x6 then(if(0<=(af (fS (fc (af (x5+x6))) (2^1)))/\(af (fS (fc (af (x5+x6))) (2^1)))<(aa x:Int)) then((cmp_Less_int.f (rd x (af (fS (fc (af (x5+x6))) (2^1)))) target).bind λv8=>if v8=true then(pI.l0 k7 x target (af ((af (fS (fc (af (x5+x6))) (2^1)))+1)) x6) else(pI.l0 k7 x target x5 (af (fS (fc (af (x5+x6))) (2^1))))) else none) else(some x5)
def pI.f (x:(List Int)) (target:Int):Option (Int×Bool):=(pI.l0 fuel x target 0 (aa x:Int)).bind λx1=>(if x1<(aa x:Int) then(if(0<=x1/\x1<(aa x:Int)) then(if((rd x x1)==target)=true then(some true) else((B2.f (rd x x1)).bind λv11=>if v11=true then((B2.f target).bind λv12=>some v12) else(some false))) else none) else(some false)).bind λx9=>some (x1,x9)
theorem pI.c (H:pI.f x target=some r) (zU:aU (Fl.int .i64) x GC F) (SL:aa x<=IP):
 QU 289 [(ll GC x IP),(ii target)] [] F (.tuple #[(ii r.1),(bb r.2)]):=by
 unfold pI.f at H;refine aH Tryz.func289 J J (λW=>rc T 20 (mq H [0,1,6] [0] (λz2 (x1:Int)=>(x1=z2,[(7,(ii x1))],[])) J J (λz2 Z1 _=>?_) ?_))
 ·refine rc T 1 (lq [0,1,6] [0] (λ(⟨k7,x5,x6⟩:Nat×Int×Int)=>(pI.l0 k7 x target x5 x6=some z2,[(7,(ii x5)),(8,(ii x6))],[])) J J (fuel,0,(aa x:Int)) [0] Z1 J J ?_);rintro k7 ⟨x5,x6⟩ Z2;replace Z2:pI.l0 (k7+1) x target x5 x6=some z2:=Z2;rw[pI.l0] at Z2;refine rc T 8 (cd J Z2 (λZ2=>?_) (λZ2=>?_))
  ·refine rc T 18 ?_;obtain⟨c4,Z2⟩:=aF Z2;obtain⟨q1,o1,e1⟩:=zU.addr c4.1 c4.2;refine ix T J e1 c4 (le T 0 (rO zU 0) e1 c4 J J (ro T 1 (k [] J afp Z2 (cmp_Less_int.c ·) (λv8 Z2=>ro T 2 (cb J Z2 (λZ2=>?_) (λZ2=>?_))))))
   ·refine rc T 7 (ar (_,_) [0] Z2 J J)
   refine rc T 6 (ar (_,_) [0] Z2 J J)
  refine rc T 5 (am _ [0] (oi Z2) J J)
 rintro _ x1 rfl H;refine mq H [] [0] (λmS (x9:Bool)=>(x9=mS,[(4,(ii x1)),(5,(bb x9))],[])) J J (λmS Z7 _=>?_) ?_
 ·refine rc T 6 (ad 35 J Z7 (λZ7=>?_) (λZ7=>?_))
  ·refine ro T 2 ?_;obtain⟨c9,Z7⟩:=aF Z7;obtain⟨q2,o2,e2⟩:=zU.addr c9.1 c9.2;refine ix T J e2 c9 (le T 0 (rO zU 0) e2 c9 J J (ro T 3 (ab 42 J Z7 (λZ7=>?_) (λZ7=>?_))))
   ·refine ro T 15 (am _ [0] (oi Z7) J J)
   refine ro T 2 (ix T J e2 c9 (le T 0 (rO zU 0) e2 c9 J J (k [] J Vh Z7 (B2.c ·) (λv11 Z7=>ro T 1 (ab 48 J Z7 (λZ7=>?_) (λZ7=>?_))))))
   ·refine ro T 1 (k [] J Vh Z7 (B2.c ·) (λv12 Z7=>ro T 7 (am _ [0] (oi Z7) J J)))
   refine ro T 9 (am _ [0] (oi Z7) J J)
  refine ro T 22 (am _ [0] (oi Z7) J J)
 rintro _ x9 rfl H;refine rc T 1 ?_
 cases H;exact p0 T J [0] J
def sj.l0:Nat->(List a_)->(List a_)->Int->Option Bool
 |0,_,_,_=>none
 |k3+1,ai,aj,x2=>if x2<(aa ai:Int) then(if(0<=x2/\x2<(aa ai:Int)) then(if(0<=x2/\x2<(aa aj:Int)) then(if(!(((rd ai x2).Cell==(rd aj x2).Cell)&&(((rd ai x2).cY==(rd aj x2).cY)&&(((rd ai x2).Key==(rd aj x2).Key)&&true))))=true then(some false) else(sj.l0 k3 ai aj (af (x2+1)))) else none) else none) else(some true)
def sj.f (ai:(List a_)) (aj:(List a_)):Option Bool:=if((aa ai:Int)!=(aa aj:Int))=true then(some false) else(sj.l0 fuel ai aj 0)
theorem sj.c (H:sj.f ai aj=some r) (wF:aU cW ai GA F) (SI:aa ai<=IL) (Ur:aU cW aj aad F) (alj:aa aj<=ahK):
 QU 226 [(ll GA ai IL),(ll aad aj ahK)] [] F (bb r):=by
 unfold sj.f at H;refine aH Tryz.func226 J J (λW=>rc T 15 (cb J H (λH=>?_) (λH=>?_)))
 ·refine rc T 7 ?_
  cases H;exact p0 T J [0] J
 refine rc T 11 (lq [0,1,12] [0] (λ(⟨k3,x2⟩:Nat×Int)=>(sj.l0 k3 ai aj x2=some r,[(13,(ii x2))],[])) J J (fuel,0) [0] H J J ?_);rintro k3 x2 Z2;replace Z2:sj.l0 (k3+1) ai aj x2=some r:=Z2;rw[sj.l0] at Z2;refine rc T 6 (cd J Z2 (λZ2=>?_) (λZ2=>?_))
 ·refine rc T 11 (dy mix aA (au T J (au T J ?_)));obtain⟨c4,Z2⟩:=aF Z2;obtain⟨q1,o1,e1⟩:=wF.addr c4.1 c4.2;refine br J J J (cV T J J J J J e1 c4.1 c4.2) (br J J J (gp T (cs:=[(ii (rd ai x2).Cell),(ii (rd ai x2).cY),(ii (rd ai x2).Key)]) J J J J J J (iI (k:=cW) (rO wF 0) e1 c4 J)) (au T J (au T J ?_)));obtain⟨c5,Z2⟩:=aF Z2;obtain⟨q2,o2,e2⟩:=Ur.addr c5.1 c5.2;refine br J J J (cV T J J J J J e2 c5.1 c5.2) (br J J J (gp T (cs:=[(ii (rd aj x2).Cell),(ii (rd aj x2).cY),(ii (rd aj x2).Key)]) J J J J J J (iI (k:=cW) (rO Ur 0) e2 c5 J)) (br J J J (Oe T (((rd ai x2).Cell==(rd aj x2).Cell)&&(((rd ai x2).cY==(rd aj x2).cY)&&(((rd ai x2).Key==(rd aj x2).Key)&&true))) J J J J Q6 aA J) (cU (rx T 1 (cb J Z2 (λZ2=>?_) (λZ2=>?_))))))
  ·refine rc T 11 ?_
   cases Z2;exact p0 T J [0] J
  refine rc T 8 (ar _ [0] Z2 J J)
 refine rc T 11 ?_
 cases Z2;exact p0 T J [0] J
end
noncomputable section
def Ca.f (n:Int):Option Bool:=some ((decide (n≥1))&&(decide (n<=16)))
theorem Ca.c (H:Ca.f n=some r):
 QU 245 [(ii n)] [] F (bb r):=by
 unfold Ca.f at H;refine aH Tryz.func245 J J (λW=>rc T 10 (ga T [3,4,5] 5 [] 8 J J J J J J J (ro T 4 ?_)))
 cases H;exact p0 T J [0] J
def uX.f (t:aJ):Option Bool:=((Ca.f t.W).bind λv3=>if v3=true then((Ca.f t.H).bind λv4=>if v4=true then(if((aa t.C:Int)==(af (t.W*t.H)))=true then((xx.f t.C 0).bind λv5=>some (!v5)) else(some false)) else(some false)) else(some false)).bind λx1=>some x1
theorem uX.c (H:uX.f t=some r) (eB:aU (Fl.int .u8) t.C iN F) (fI:aa t.C<=iR):
 QU 220 [(.agg #[(ii t.W),(ii t.H),(ll iN t.C iR)])] [] F (bb r):=by
 unfold uX.f at H;refine aH Tryz.func220 J J (λW=>rc T 2 (nc T J (λb1=>ro T 3 (mq H [] [0] (λz2 (x1:Bool)=>(x1=z2,[(2,(bb x1))],[])) J J (λz2 Z1 _=>?_) ?_))))
 ·refine rc T 2 (lf T 1 J (k [] J U_ Z1 (Ca.c ·) (λv3 Z1=>ro T 1 (ab 6 J Z1 (λZ1=>?_) (λZ1=>?_)))))
  ·refine ro T 1 (lf T 1 J (k [] J U_ Z1 (Ca.c ·) (λv4 Z1=>ro T 2 (ab 11 J Z1 (λZ1=>?_) (λZ1=>?_)))))
   ·refine ro T 1 (lf T 1 J (ro T 2 (lf T 1 J (ro T 1 (lf T 1 J (ro T 4 (ab 22 J Z1 (λZ1=>?_) (λZ1=>?_))))))))
    ·refine ro T 1 (lf T 1 J (k [] J ON Z1 (xx.c · (rO eB 0) fI) (λv5 Z1=>ro T 5 (am _ [0] (oi Z1) J J))))
    refine ro T 8 (am _ [0] (oi Z1) J J)
   refine ro T 19 (am _ [0] (oi Z1) J J)
  refine ro T 24 (am _ [0] (oi Z1) J J)
 rintro _ x1 rfl H;refine rc T 1 ?_
 cases H;exact p0 T J [0] J
def F7.f (t:aJ) (aj:Int):Option Bool:=(if aj≥0 then(if aj<(aa t.C:Int) then((uX.f t).bind λv3=>some v3) else(some false)) else(some false)).bind λx1=>some x1
theorem F7.c (H:F7.f t aj=some r) (eB:aU (Fl.int .u8) t.C iN F) (fI:aa t.C<=iR):
 QU 299 [(.agg #[(ii t.W),(ii t.H),(ll iN t.C iR)]),(ii aj)] [] F (bb r):=by
 unfold F7.f at H;refine aH Tryz.func299 J J (λW=>rc T 2 (nc T J (λb1=>ro T 3 (mq H [] [0] (λz2 (x1:Bool)=>(x1=z2,[(4,(bb x1))],[])) J J (λz2 Z1 _=>?_) ?_))))
 ·refine rc T 4 (ad 7 J Z1 (λZ1=>?_) (λZ1=>?_))
  ·refine ro T 2 (lf T 1 J (ro T 4 (ad 14 J Z1 (λZ1=>?_) (λZ1=>?_))))
   ·refine lm T 1 J (k [] J K4 Z1 (uX.c · (rO eB 0) fI) (λv3 Z1=>ro T 4 (am _ [0] (oi Z1) J J)))
   refine ro T 6 (am _ [0] (oi Z1) J J)
  refine ro T 13 (am _ [0] (oi Z1) J J)
 rintro _ x1 rfl H;refine rc T 1 ?_
 cases H;exact p0 T J [0] J
def B_.f (t:aJ) (aj:Int):Option Int:=(F7.f t aj).bind λv1=>if(!v1)=true then(some 0) else(if(0<=aj/\aj<(aa t.C:Int)) then(some (af (rd t.C aj))) else none)
theorem B_.c (H:B_.f t aj=some r) (eB:aU (Fl.int .u8) t.C iN F) (fI:aa t.C<=iR):
 QU 288 [(.agg #[(ii t.W),(ii t.H),(ll iN t.C iR)]),(ii aj)] [] F (ii r):=by
 unfold B_.f at H;refine aH Tryz.func288 J J (λW=>rc T 2 (nc T J (λb1=>ro T 6 (lm T 1 J (ro T 1 (k [] J afo H (F7.c · (rO eB 0) fI) (λv1 H=>ro T 3 (cb J H (λH=>?_) (λH=>?_)))))))))
 ·refine rc T 7 ?_
  cases H;exact p0 T J [0] J
 refine rc T 5 (lf T 1 J (ro T 1 ?_));obtain⟨c3,H⟩:=aF H;obtain⟨q2,o2,e2⟩:=eB.addr c3.1 c3.2;refine ix T J e2 c3 (le T 0 (rO eB 0) e2 c3 J J (ro T 5 ?_))
 cases H;exact p0 T J [0] J
end
noncomputable section
def nZ.f (ai:fm) (n:Int):Option ((List Int)×Er×fm):=if(af ((aa ai.b:Int)-ai.bc))<n then(some ([],(Er.dW 6),ai)) else(if(0<=(af ((af (ai.bc+n))-n))/\(af ((af (ai.bc+n))-n))<=(af (ai.bc+n))/\(af (ai.bc+n))<=(aa ai.b:Int)) then(some ((aB ai.b (af ((af (ai.bc+n))-n)) (af (ai.bc+n))),Er.nil,(fm.mk ai.b (af (ai.bc+n))))) else none)
def nZ.R (el:Nat->Addr) (aY:Nat) (y0:Value) (xr:List Int) (ar:Option Addr) (nr:Nat) (r:((List Int)×Er×fm)):bm:=λu G=> ∃(a0:Option Addr) (n0:Nat) (v1:Value) (H1:Hp),dJ (Fl.int .u8) xr ar nr r.1 a0 n0/\aa r.1<=n0/\gz 414 el r.2.1 v1 H1/\u=(.tuple #[(ll a0 r.1 n0),v1])/\G=[H1,(cl aY 340 [y0,(ii r.2.2.bc)])]
theorem nZ.c (H:nZ.f ai n=some r) (hG:fR 414 fk gZ el F) (nR:aU (Fl.int .u8) ai.b iE F) (kY:aa ai.b<=iy):
 QR 278 [(pp aY),(ii n)] [(cl aY 340 [(ll iE ai.b iy),(ii ai.bc)])] [] F (nZ.R el aY (ll iE ai.b iy) ai.b iE iy r):=by
 unfold nZ.f at H;refine aH Tryz.func278 J J (λW=>rc T 8 (dy mix aA (au T J (au T J (au T J (cB T 0 J J J ?_))))))
 iterate 4 refine au T J ?_
 refine cB T 0 J J J (au T J (au T J (au T J (cU (rx T 1 (cd J H (λH=>?_) (λH=>?_)))))))
 ·refine rc T 1 (dy mix aA (br J J J (cS T J J J J (tm (j:=1) J hG (g:=6) (by decide))) (au T J (au T J (cU (rx T 3 ?_))))))
  cases H;refine bC (p1 T J [2,0,0] ⟨none,0,(.iface 414 (.pointer (some (el 6)))),[],dJ.nil,(Nat.zero_le _),py,J,J⟩ J)
 refine rc T 7 (lf T 0 J (ro T 4 (sg T 0 J (ro T 3 (dy mix aA (au T J (au T J (au T J (cB T 0 J J J (au T J (au T J (au T J (cB T 0 J J J ?_)))))))))))))
 iterate 5 refine au T J ?_
 refine cB T 0 J J J ?_;obtain⟨c2,H⟩:=aF H;refine br J J J (lb T J J J J J J c2 kY) (au T J (au T J (cU (rx T 2 ?_))))
 cases H;refine bC (p1 T J [2,0,0] ⟨(gy iE iy (ax (af ((af (ai.bc+n))-n))) 1),(iy-ax (af ((af (ai.bc+n))-n))),.nilIface,[],(dJ.sub dJ.self kY c2),(nC c2 kY),vf,J,J⟩ J)
def qW.f (ai:fm) (n:Int):Option ((List Int)×Er×fm):=(nZ.f ai n).bind λv1=>(if(Er.isNil v1.2.1)=true then((xx.f v1.1 0).bind λv4=>some v4) else(some false)).bind λx2=>if x2=true then(some (v1.1,(Er.dW 5),(fm.mk ai.b v1.2.2.bc))) else(some (v1.1,v1.2.1,(fm.mk ai.b v1.2.2.bc)))
def qW.R (el:Nat->Addr) (aY:Nat) (y0:Value) (xr:List Int) (ar:Option Addr) (nr:Nat) (r:((List Int)×Er×fm)):bm:=λu G=> ∃(a0:Option Addr) (n0:Nat) (v1:Value) (H1:Hp),dJ (Fl.int .u8) xr ar nr r.1 a0 n0/\aa r.1<=n0/\gz 414 el r.2.1 v1 H1/\u=(.tuple #[(ll a0 r.1 n0),v1])/\G=[H1,(cl aY 340 [y0,(ii r.2.2.bc)])]
theorem qW.c (H:qW.f ai n=some r) (hG:fR 414 fk gZ el F) (nR:aU (Fl.int .u8) ai.b iE F) (kY:aa ai.b<=iy):
 QR 279 [(pp aY),(ii n)] [(cl aY 340 [(ll iE ai.b iy),(ii ai.bc)])] [] F (qW.R el aY (ll iE ai.b iy) ai.b iE iy r):=by
 unfold qW.f at H;refine aH Tryz.func279 J J (λW=>rc T 10 (kr (nZ.R el aY (ll iE ai.b iy) ai.b iE iy) [] [0] J OV H (nZ.c · (dE hG (j:=0) J) (rO nR 0) kY) (λv1 H=>?_)));rintro _ _ ⟨a2,n2,v3,H3,EM,Kl,s3,rfl,rfl⟩;refine fz J (ro T 8 (mq H [6,7] [0,0,0] (λz3 (x2:Bool)=>(x2=z3,[(19,(bb x2))],[])) J J (λz3 Z2 _=>?_) ?_))
 ·refine rc T 2 (bz J (KG T J J J (sW s3 (j:=1) J)) (ro T 1 (ab 16 J Z2 (λZ2=>?_) (λZ2=>?_))))
  ·refine ro T 1 (k [] J ON Z2 (xx.c · (px EM (rO nR 0) kY) Kl) (λv4 Z2=>ro T 3 (am _ [0,0,0] (oi Z2) J J)))
  refine ro T 5 (am _ [0,0,0] (oi Z2) J J)
 rintro _ x2 rfl H;refine cb J H (λH=>?_) (λH=>?_)
 ·refine rc T 1 (lg T J (tm (j:=0) J hG (g:=5) (by decide)) (ro T 12 ?_))
  cases H;refine bC (p1 T J [3,2,0] ⟨a2,n2,(.iface 414 (.pointer (some (el 5)))),[],EM,Kl,py,J,J⟩ J)
 refine rc T 11 ?_
 cases H;exact p1 T J [1,1,0] ⟨a2,n2,v3,H3,EM,Kl,s3,J,J⟩ J
def lQ.l0:Nat->fm->Int->Int->List Int->Option (Sum ((List Int)×Er×fm) ((List Int)×Int))
 |0,_,_,_,_=>none
 |k8+1,ai,n,x6,x7=>if(aa x7:Int)<n then((nZ.f (fm.mk ai.b x6) 2).bind λv9=>if(!(Er.isNil v9.2.1))=true then(some (Sum.inl ([],v9.2.1,(fm.mk ai.b v9.2.2.bc)))) else(if(0<=(0:Int)/\(0:Int)<(aa v9.1:Int)) then(if(0<=(1:Int)/\(1:Int)<(aa v9.1:Int)) then((if(((rd v9.1 1)==0)||(decide ((af ((af (rd v9.1 0))+1))>(af (n-(aa x7:Int))))))=true then(some true) else(if(aa x7:Int)>0 then(if(0<=(af ((aa x7:Int)-1))/\(af ((aa x7:Int)-1))<(aa x7:Int)) then(some ((rd x7 (af ((aa x7:Int)-1)))==(rd v9.1 1))) else none) else(some false))).bind λaN=>if aN=true then(some (Sum.inl ([],(Er.dW 5),(fm.mk ai.b v9.2.2.bc)))) else((kX.f [(rd v9.1 1)] (af ((af (rd v9.1 0))+1))).bind λv12=>if(aa x7+aa v12<=1099511627776) then(lQ.l0 k8 ai n v9.2.2.bc (x7++v12)) else none)) else none) else none)) else(some (Sum.inr (x7,x6)))
def lQ.f (ai:fm) (n:Int):Option ((List Int)×Er×fm):=(lQ.l0 fuel ai n ai.bc []).bind λzz=>match zz with |Sum.inl q=>some q |Sum.inr (x1,x2)=>some (x1,Er.nil,(fm.mk ai.b x2))
def lQ.R (el:Nat->Addr) (aY:Nat) (y0:Value) (r:((List Int)×Er×fm)):bm:=λu G=> ∃(a0 n0 H0:_) (v1:Value) (H1:Hp),ak (Fl.int .u8) 5 r.1 a0 n0 H0/\gz 414 el r.2.1 v1 H1/\u=(.tuple #[(ll a0 r.1 n0),v1])/\G=[H0,H1,(cl aY 340 [y0,(ii r.2.2.bc)])]
theorem lQ.c (H:lQ.f ai n=some r) (hG:fR 414 fk gZ el F) (nR:aU (Fl.int .u8) ai.b iE F) (kY:aa ai.b<=iy):
 QR 281 [(pp aY),(ii n)] [(cl aY 340 [(ll iE ai.b iy),(ii ai.bc)])] [] F (lQ.R el aY (ll iE ai.b iy) r):=by
 unfold lQ.f at H;refine aH Tryz.func281 J J (λW=>rc T 11 (mq H [] [1] (λz3 (⟨x1,x2,a2,n2,H2⟩:List Int×Int×Option Addr×Nat×Hp)=>((Sum.inr (x1,x2))=z3/\ak (Fl.int .u8) 5 x1 a2 n2 H2,[(6,(ll a2 x1 n2))],[H2,(cl aY 340 [(ll iE ai.b iy),(ii x2)])])) J J (λz3 Z1 H=>?_) ?_))
 ·refine rc T 1 (bC (lq [0,1] [1] (λ(⟨k8,x6,x7,a4,n4,H4⟩:Nat×Int×List Int×Option Addr×Nat×Hp)=>(lQ.l0 k8 ai n x6 x7=some z3/\ak (Fl.int .u8) 5 x7 a4 n4 H4,[(6,(ll a4 x7 n4))],[(cl aY 340 [(ll iE ai.b iy),(ii x6)]),H4])) J J (fuel,ai.bc,[],none,0,[]) [1,0,0] ⟨Z1,ak.nil⟩ J J ?_));rintro k8 ⟨x6,x7,a4,n4,H4⟩ ⟨Z2,s4⟩;rw[lQ.l0] at Z2;refine rc T 9 (cd J Z2 (λZ2=>?_) (λZ2=>?_))
  ·refine rc T 6 (kr (nZ.R el aY (ll iE ai.b iy) ai.b iE iy) [] [1] J OV Z2 (nZ.c (ai:=(fm.mk ai.b x6)) · (dE hG (j:=0) J) (rO nR 0) kY) (λv9 Z2=>?_));rintro _ _ ⟨a5,n5,v6,H6,GS,SG,s6,rfl,rfl⟩;refine fz J (ro T 11 (bz J (EY T J J J (sW s6 (j:=2) J)) (ro T 2 (cb J Z2 (λZ2=>?_) (λZ2=>?_)))))
   ·refine rc T 13 ?_;obtain rfl:=Option.some.inj Z2;obtain rfl:=Option.some.inj (show some ([],v9.2.1,(fm.mk ai.b v9.2.2.bc))=some r from H)
    refine bC (p1 T J [4,2,2,0] ⟨none,0,[],v6,H6,ak.nil,s6,J,J⟩ J)
   refine rc T 3 (dy mix aA (au T J ?_));obtain⟨c6,Z2⟩:=aF Z2;obtain⟨q8,o8,e8⟩:=(dJ.r GS nR kY).addr c6.1 c6.2;refine br J J J (cV T J J J J J e8 c6.1 c6.2) (br J J J (cS T J J J J (iu (k:=(Fl.int .u8)) (px GS (rO nR 0) kY) e8 c6 0 J)) (au T J (au T J (au T J ?_))));obtain⟨c7,Z2⟩:=aF Z2;refine br J J J (cV T J J J J J e8 c7.1 c7.2) (br J J J (cS T J J J J (iu (k:=(Fl.int .u8)) (px GS (rO nR 0) kY) e8 c7 0 J)) (au T J (au T J (cU (rx T 2 (mq Z2 [0,1,6,9,10] [0,2,0] (λmj (aN:Bool)=>(aN=mj,[(55,(bb aN))],[])) J J (λmj Z8 _=>?_) ?_))))))
   ·refine rc T 4 (go T [3,4,5,6,7,8,9] 33 [0,1,6,9,10] 40 J J J J J J J (ro T 1 (ab 41 J Z8 (λZ8=>?_) (λZ8=>?_))))
    ·refine ro T 16 (am _ [0,2,0] (oi Z8) J J)
    refine ro T 4 (ad 45 J Z8 (λZ8=>?_) (λZ8=>?_))
    ·refine ro T 4 ?_;obtain⟨eQ,Z8⟩:=aF Z8;obtain⟨q9,o9,e9⟩:=s4.r.addr eQ.1 eQ.2;refine ix T J e9 eQ (le T 0 (oO s4 1) e9 eQ J J (ro T 6 (am _ [0,2,0] (oi Z8) J J)))
    refine ro T 12 (am _ [0,2,0] (oi Z8) J J)
   rintro _ aN rfl Z2;refine cb J Z2 (λZ2=>?_) (λZ2=>?_)
   ·refine rc T 1 (dy mix aA (br J J J (cS T J J J J (tm (j:=0) J hG (g:=5) (by decide))) (au T J (au T J (cU (rx T 7 ?_))))))
    obtain rfl:=Option.some.inj Z2;obtain rfl:=Option.some.inj (show some ([],(Er.dW 5),(fm.mk ai.b v9.2.2.bc))=some r from H)
    refine bC (bC (p1 T J [3,3,1,0] ⟨none,0,[],(.iface 414 (.pointer (some (el 5)))),[],ak.nil,py,J,J⟩ J))
   refine rc T 5 (ba (dp (k:=(Fl.int .u8)) T [(rd v9.1 1)] J J J J J J J J J (λa12 dL dS=>ro T 1 (kr kX.R [] [] J Ve Z2 (kX.c · (oO dS 3) dS.ck) (λv12 Z2=>?_)))));rintro _ _ ⟨dQ,n13,fe,dF,rfl,rfl⟩;refine fz J ?_;obtain⟨mv,Z2⟩:=aF Z2;refine ba (eP (k:=(Fl.int .u8)) (xs:=x7) T (g:=2) J J J J J J J J J J s4 (oO dF 4) mv J (λjk n14 gf gQ=>ro T 4 (ar (_,_,_,_,_) [0,0,0] ⟨Z2,gQ⟩ J J)))
  refine rc T 5 (am (_,_,_,_,_) [0,1,0] ⟨oi Z2,s4⟩ J J)
 rintro _ ⟨x1,x2,a2,n2,H2⟩ ⟨rfl,s2⟩ H;refine rc T 8 ?_
 cases H;refine bC (p1 T J [1,2,1,0] ⟨a2,n2,H2,.nilIface,[],s2,vf,J,J⟩ J)
def qV.f (ai:fm) (n:Int):Option ((List Int)×Er×fm):=(nZ.f ai 1).bind λv1=>if(!(Er.isNil v1.2.1))=true then(some ([],v1.2.1,(fm.mk ai.b v1.2.2.bc))) else(if(0<=(0:Int)/\(0:Int)<(aa v1.1:Int)) then(if((rd v1.1 0)==0)=true then((qW.f (fm.mk ai.b v1.2.2.bc) 1).bind λv2=>(kX.f v2.1 n).bind λv3=>some (v3,v2.2.1,(fm.mk ai.b v2.2.2.bc))) else(if((rd v1.1 0)==1)=true then((qW.f (fm.mk ai.b v1.2.2.bc) n).bind λv4=>some (v4.1,v4.2.1,(fm.mk ai.b v4.2.2.bc))) else(if((rd v1.1 0)==2)=true then((lQ.f (fm.mk ai.b v1.2.2.bc) n).bind λv5=>some (v5.1,v5.2.1,(fm.mk ai.b v5.2.2.bc))) else(some ([],(Er.dW 5),(fm.mk ai.b v1.2.2.bc)))))) else none)
def qV.R (el:Nat->Addr) (aY:Nat) (y0:Value) (xr:List Int) (ar:Option Addr) (nr:Nat) (r:((List Int)×Er×fm)):bm:=λu G=> ∃(a0 n0 H0:_) (v1:Value) (H1:Hp),JI (Fl.int .u8) 5 xr ar nr r.1 a0 n0 H0/\gz 414 el r.2.1 v1 H1/\u=(.tuple #[(ll a0 r.1 n0),v1])/\G=[H0,H1,(cl aY 340 [y0,(ii r.2.2.bc)])]
theorem qV.c (H:qV.f ai n=some r) (hG:fR 414 fk gZ el F) (nR:aU (Fl.int .u8) ai.b iE F) (kY:aa ai.b<=iy):
 QR 252 [(pp aY),(ii n)] [(cl aY 340 [(ll iE ai.b iy),(ii ai.bc)])] [] F (qV.R el aY (ll iE ai.b iy) ai.b iE iy r):=by
 unfold qV.f at H;refine aH Tryz.func252 J J (λW=>rc T 9 (kr (nZ.R el aY (ll iE ai.b iy) ai.b iE iy) [] [0] J OV H (nZ.c · (dE hG (j:=0) J) (rO nR 0) kY) (λv1 H=>?_)));rintro _ _ ⟨a2,n2,v3,H3,EM,Kl,s3,rfl,rfl⟩;refine fz J (ro T 11 (bz J (EY T J J J (sW s3 (j:=1) J)) (ro T 2 (cb J H (λH=>?_) (λH=>?_)))))
 ·refine rc T 9 ?_
  cases H;refine bC (p1 T J [3,1,1,0] ⟨none,0,[],v3,H3,(.inl ⟨dJ.nil,Nat.zero_le _,J⟩),s3,J,J⟩ J)
 refine rc T 6 ?_;obtain⟨c3,H⟩:=aF H;obtain⟨q5,o5,e5⟩:=(dJ.r EM nR kY).addr c3.1 c3.2;refine ix T J e5 c3 (le T 0 (px EM (rO nR 0) kY) e5 c3 J J (ro T 9 (cb J H (λH=>?_) (λH=>?_))))
 ·refine rc T 3 (kr (qW.R el aY (ll iE ai.b iy) ai.b iE iy) [] [2] J Vd H (qW.c (ai:=(fm.mk ai.b v1.2.2.bc)) · (dE hG (j:=0) J) (rO nR 0) kY) (λv2 H=>?_));rintro _ _ ⟨a6,n6,v7,H7,b6_,c6_,s7,rfl,rfl⟩;refine fz J (ro T 11 (kr kX.R [] [] J Ve H (kX.c · (px b6_ (rO nR 0) kY) c6_) (λv3 H=>?_)));rintro _ _ ⟨a8,n8,H8,s8,rfl,rfl⟩;refine fz J (ro T 4 (ke [4,5] [0,1,1,1] J J (rx T 4 ?_)))
  cases H;exact p1 T J [3,1,1,0] ⟨a8,n8,H8,v7,H7,(.inr s8),s7,J,J⟩ J
 refine rc T 6 (cb J H (λH=>?_) (λH=>?_))
 ·refine rc T 4 (kr (qW.R el aY (ll iE ai.b iy) ai.b iE iy) [] [2] J Vd H (qW.c (ai:=(fm.mk ai.b v1.2.2.bc)) · (dE hG (j:=0) J) (rO nR 0) kY) (λv4 H=>?_));rintro _ _ ⟨a9,n9,v10,cu,b9_,c9_,bX,rfl,rfl⟩;refine fz J (ro T 9 ?_)
  cases H;refine bC (p1 T J [4,2,2,0] ⟨a9,n9,[],v10,cu,(.inl ⟨b9_,c9_,J⟩),bX,J,J⟩ J)
 refine rc T 6 (cb J H (λH=>?_) (λH=>?_))
 ·refine rc T 4 (kr (lQ.R el aY (ll iE ai.b iy)) [] [2] J afg H (lQ.c (ai:=(fm.mk ai.b v1.2.2.bc)) · (dE hG (j:=0) J) (rO nR 0) kY) (λv5 H=>?_));rintro _ _ ⟨a12,n12,dL,iB,fe,dS,dF,rfl,rfl⟩;refine fz J (ro T 9 ?_)
  cases H;exact p1 T J [2,2,2,0] ⟨a12,n12,dL,iB,fe,(.inr dS),dF,J,J⟩ J
 refine rc T 4 (dy mix aA (br J J J (cS T J J J J (tm (j:=0) J hG (g:=5) (by decide))) (au T J (au T J (cU (rx T 2 ?_))))))
 cases H;refine bC (bC (p1 T J [3,3,2,0] ⟨none,0,[],(.iface 414 (.pointer (some (el 5)))),[],(.inl ⟨dJ.nil,Nat.zero_le _,J⟩),py,J,J⟩ J))
def DU.f (ai:Int) (aj:aJ):Option Bool:=if(0<=(0:Int)/\(0:Int)<(aa aj.C:Int)) then(some (ai !=(rd aj.C 0))) else none
theorem DU.c (H:DU.f ai aj=some r) (Iz:(vc,Obj.cells #[(ii aj.W),(ii aj.H),(ll J5 aj.C L2)] 139 (0,0))∈F) (E9:aU (Fl.int .u8) aj.C J5 F) (SJ:aa aj.C<=L2):
 QU 304 [(.int .u8 ai),(pp vc)] [] F (bb r):=by
 unfold DU.f at H;refine aH Tryz.func304 J J (λW=>rc T 9 (lg T J (oP (j:=0) Iz J J) ?_));obtain⟨c1,H⟩:=aF H;obtain⟨q1,o1,e1⟩:=E9.addr c1.1 c1.2;refine ix T J e1 c1 (le T 0 (rO E9 0) e1 c1 J J (ro T 5 ?_))
 cases H;exact p0 T J [0] J
def sm.l0:Nat->(List Int)->aJ->Int->Option Int
 |0,_,_,_=>none
 |k3+1,s,fM,x2=>if x2<(aa s:Int) then(if(0<=x2/\x2<(aa s:Int)) then((DU.f (rd s x2) fM).bind λv4=>if v4=true then(some x2) else(sm.l0 k3 s fM (af (x2+1)))) else none) else(some (-1))
def sm.f (s:(List Int)) (fM:aJ):Option Int:=sm.l0 fuel s fM 0
theorem sm.c (H:sm.f s fM=some r) (jQ:aU (Fl.int .u8) s jl F) (sQ:aa s<=jt) (DC:(CN,Obj.cells #[(ii fM.W),(ii fM.H),(ll CG fM.C DK)] 139 (0,0))∈F) (C4:aU (Fl.int .u8) fM.C CG F) (CT:aa fM.C<=DK):
 QU 305 [(ll jl s jt),(.func (.func 304) #[] #[(pp CN)])] [] F (ii r):=by
 unfold sm.f at H;refine aH Tryz.func305 J J (λW=>rc T 14 (lq [0,1,7] [0] (λ(⟨k3,x2⟩:Nat×Int)=>(sm.l0 k3 s fM x2=some r,[(8,(ii x2))],[])) J J (fuel,0) [0] H J J ?_));rintro k3 x2 Z1;replace Z1:sm.l0 (k3+1) s fM x2=some r:=Z1;rw[sm.l0] at Z1;refine rc T 6 (cd J Z1 (λZ1=>?_) (λZ1=>?_))
 ·refine rc T 15 ?_;obtain⟨c3,Z1⟩:=aF Z1;obtain⟨q1,o1,e1⟩:=jQ.addr c3.1 c3.2;refine ix T J e1 c3 (le T 0 (rO jQ 0) e1 c3 J J (k [] J afs Z1 (DU.c · (qT DC (j:=0) J) (rO C4 0) CT) (λv4 Z1=>ro T 2 (cb J Z1 (λZ1=>?_) (λZ1=>?_)))))
  ·refine rc T 12 ?_
   cases Z1;exact p0 T J [0] J
  refine rc T 8 (ar _ [0] Z1 J J)
 refine rc T 11 ?_
 cases Z1;exact p0 T J [0] J
def Eh.f (s:(List Int)) (fM:aJ):Option Bool:=(sm.f s fM).bind λv1=>some (decide (v1≥0))
theorem Eh.c (H:Eh.f s fM=some r) (jQ:aU (Fl.int .u8) s jl F) (sQ:aa s<=jt) (DC:(CN,Obj.cells #[(ii fM.W),(ii fM.H),(ll CG fM.C DK)] 139 (0,0))∈F) (C4:aU (Fl.int .u8) fM.C CG F) (CT:aa fM.C<=DK):
 QU 303 [(ll jl s jt),(.func (.func 304) #[] #[(pp CN)])] [] F (bb r):=by
 unfold Eh.f at H;refine aH Tryz.func303 J J (λW=>rc T 9 (k [] J aft H (sm.c · (rO jQ 0) sQ (qT DC (j:=0) J) (rO C4 0) CT) (λv1 H=>ro T 5 ?_)))
 cases H;exact p0 T J [0] J
def jI.l1:Nat->aJ->Int->Int->Option Int
 |0,_,_,_=>none
 |yz+1,t,x5,aT=>(if(af (x5+aT))<(aa t.C:Int) then(if(0<=(af (x5+aT))/\(af (x5+aT))<(aa t.C:Int)) then(if(0<=x5/\x5<(aa t.C:Int)) then(some ((rd t.C (af (x5+aT)))==(rd t.C x5))) else none) else none) else(some false)).bind λcE=>if cE=true then(jI.l1 yz t x5 (af (aT+1))) else(some aT)
def jI.l0:Nat->aJ->List Int->Int->Option (List Int)
 |0,_,_,_=>none
 |k6+1,t,x4,x5=>if x5<(aa t.C:Int) then(((jI.l1 fuel t x5 1).bind λaN=>if(0<=x5/\x5<(aa t.C:Int)) then(if(aa x4+2<=1099511627776) then(some ((x4++[(bP (af (aN-1))),(rd t.C x5)]),(af (x5+aN)))) else none) else none).bind λ(x7,x8)=>jI.l0 k6 t x7 x8) else(some x4)
def jI.f (t:aJ) (form:Int):Option (List Int):=if(form==0)=true then((Eh.f t.C t).bind λv1=>if v1=true then(some []) else(if(0<=(0:Int)/\(0:Int)<(aa t.C:Int)) then(if(aa [(bP form)]+1<=1099511627776) then(some ([(bP form)]++[(rd t.C 0)])) else none) else none)) else(if(form==1)=true then(if(aa [(bP form)]+aa t.C<=1099511627776) then(some ([(bP form)]++t.C)) else none) else(jI.l0 fuel t [(bP form)] 0))
def jI.R (r:(List Int)):bm:=λu G=> ∃a0 n0 H0,ak (Fl.int .u8) 5 r a0 n0 H0/\(r=[]->a0=none)/\u=(ll a0 r n0)/\G=[H0]
theorem jI.c (H:jI.f t form=some r) (eB:aU (Fl.int .u8) t.C iN F) (fI:aa t.C<=iR):
 QR 297 [(.agg #[(ii t.W),(ii t.H),(ll iN t.C iR)]),(ii form)] [] [] F (jI.R r):=by
 unfold jI.f at H;refine aH Tryz.func297 J J (λW=>rc T 2 (nc T J (λb1=>ro T 7 (ba (dp (k:=(Fl.int .u8)) T [(bP form)] J J J J J J J J J (λa2 H2 s2=>ro T 16 (cb J H (λH=>?_) (λH=>?_))))))))
 ·refine rc T 4 (lf T 1 J (ro T 1 (k [] J afr H (Eh.c · (rO eB 0) fI (DE (j:=1) J) (rO eB 0) fI) (λv1 H=>ro T 2 (cb J H (λH=>?_) (λH=>?_))))))
  ·refine rc T 9 ?_
   cases H;refine bC (p1 T J [3,0] ⟨none,0,[],ak.nil,(λ_=>rfl),J,J⟩ J)
  refine rc T 6 (lf T 1 J ?_);obtain⟨c4,H⟩:=aF H;obtain⟨q4,o4,e4⟩:=eB.addr c4.1 c4.2;refine ix T J e4 c4 (le T 0 (rO eB 0) e4 c4 J J (ba (dp (k:=(Fl.int .u8)) T [(rd t.C 0)] J J J J J J J J J (λa5 H5 s5=>?_))));obtain⟨c5,H⟩:=aF H;refine ba (eP (k:=(Fl.int .u8)) (xs:=[(bP form)]) T (g:=2) J J J J J J J J J J s2 (oO s5 3) c5 J (λa6 n6 H6 s6=>ro T 2 (ke [4] [0,1] J J (rx T 4 ?_))))
  cases H;exact p1 T J [1,0] ⟨a6,n6,H6,s6,(Qf (.inr J)),J,J⟩ J
 refine rc T 6 (cb J H (λH=>?_) (λH=>?_))
 ·refine rc T 4 (lf T 1 J ?_);obtain⟨c7,H⟩:=aF H;refine ba (eP (k:=(Fl.int .u8)) (xs:=[(bP form)]) T (g:=2) J J J J J J J J J J s2 (rO eB 0) c7 J (λa7 n7 H7 s7=>ro T 2 (ke [4] [0,1] J J (rx T 4 ?_))))
  cases H;exact p1 T J [1,0] ⟨a7,n7,H7,s7,(Qf (.inl J)),J,J⟩ J
 refine rc T 10 (lq [2] [0,0] (λ(⟨k6,x4,x5,a9,n9,H9⟩:Nat×List Int×Int×Option Addr×Nat×Hp)=>(jI.l0 k6 t x4 x5=some r/\ak (Fl.int .u8) 5 x4 a9 n9 H9/\(x4=[]->a9=none),[(5,(ll a9 x4 n9)),(6,(ii x5))],[H9])) J J (fuel,[(bP form)],0,a2,(aa [(bP form)]),H2) [0,0,0] ⟨H,s2,(λe=>by cases e)⟩ J J ?_)
 rintro k6 ⟨x4,x5,a9,n9,H9⟩ ⟨Z8,s9,r9⟩;rw[jI.l0] at Z8;refine rc T 5 (lf T 1 J (ro T 4 (cd J Z8 (λZ8=>?_) (λZ8=>?_))))
 ·refine rc T 2 (mn Z8 [2] [0,0] (λz9 (⟨x7,x8,cK,n10,cu⟩:List Int×Int×Option Addr×Nat×Hp)=>((x7,x8)=z9/\ak (Fl.int .u8) 5 x7 cK n10 cu/\(x7=[]->cK=none),[(5,(ll cK x7 n10)),(6,(ii x8))],[cu])) J J (λz9 jM _=>?_) ?_)
  ·refine rc T 6 (mq jM [2,5,6] [0,0,0] (λmj (aN:Int)=>(aN=mj,[(7,(ii aN))],[])) J J (λmj bh _=>?_) ?_)
   ·refine rc T 1 (lq [2,5,6] [0,0,0] (λ(⟨yz,aT⟩:Nat×Int)=>(jI.l1 yz t x5 aT=some mj,[(7,(ii aT))],[])) J J (fuel,1) [0,0,0] bh J J ?_);rintro yz aT bp;replace bp:jI.l1 (yz+1) t x5 aT=some mj:=bp;rw[jI.l1] at bp;refine rc T 1 (mq bp [2,5,6,7] [0,0,0] (λJH (cE:Bool)=>(cE=JH,[(57,(bb cE))],[])) J J (λJH ox _=>?_) ?_)
    ·refine dy mix aA ?_
     iterate 4 refine au T J ?_
     refine cB T 1 J J J (au T J (au T J (au T J (qd 43 J ox (λox=>?_) (λox=>?_)))))
     ·refine au T J (cB T 1 J J J (au T J (au T J (au T J ?_))));obtain⟨zK,ox⟩:=aF ox;obtain⟨q11,o11,zL⟩:=eB.addr zK.1 zK.2;refine br J J J (cV T J J J J J zL zK.1 zK.2) (br J J J (cS T J J J J (iu (k:=(Fl.int .u8)) (rO eB 0) zL zK 0 J)) (au T J (cB T 1 J J J (au T J ?_))));obtain⟨mw,ox⟩:=aF ox;refine br J J J (cV T J J J J J zL mw.1 mw.2) (br J J J (cS T J J J J (iu (k:=(Fl.int .u8)) (rO eB 0) zL mw 0 J)) (au T J (au T J (cU (rx T 1 (am _ [0,0,0] (oi ox) J J))))))
     iterate 14 refine au T J ?_
     refine cU (rx T 1 (am _ [0,0,0] (oi ox) J J))
    rintro _ cE rfl bp;refine cb J bp (λbp=>?_) (λbp=>?_)
    ·refine rc T 10 (ar _ [0,0,0] bp J J)
    refine rc T 5 (am _ [0,0,0] (oi bp) J J)
   rintro _ aN rfl jM;refine rc T 7 (lf T 1 J (ro T 1 ?_));obtain⟨l_,jM⟩:=aF jM;obtain⟨xd,Qj,uh⟩:=eB.addr l_.1 l_.2;refine ix T J uh l_ (le T 0 (rO eB 0) uh l_ J J (ba (dp (k:=(Fl.int .u8)) T [(bP (af (aN-1))),(rd t.C x5)] J J J J J J J J J (λdQ fe dF=>?_))));obtain⟨Be,jM⟩:=aF jM;refine ba (eP (k:=(Fl.int .u8)) (xs:=x4) T (g:=2) J J J J J J J J J J s9 (oO dF 3) Be J (λjk n14 gf gQ=>ro T 11 (am (_,_,_,_,_) [0,0,0] ⟨oi jM,gQ,(Qf (.inr J))⟩ J J)))
  rintro _ ⟨x7,x8,cK,n10,cu⟩ ⟨rfl,bX,Qx⟩ Z8;refine rx T 1 (ar (_,_,_,_,_) [0,0,0] ⟨Z8,bX,Qx⟩ J J)
 refine rc T 12 ?_
 cases Z8;exact p1 T J [2,0] ⟨a9,n9,H9,s9,r9,J,J⟩ J
def lP.l0:Nat->aJ->Int->List Int->Int->Option (Int×(List Int))
 |0,_,_,_,_=>none
 |k7+1,t,x4,x5,x6=>if x6<3 then((jI.f t x6).bind λv8=>(if(!List.isEmpty v8)=true then(if(List.isEmpty x5)=true then(some true) else(some (decide ((aa v8:Int)<(aa x5:Int))))) else(some false)).bind λx9=>if x9=true then(lP.l0 k7 t x6 v8 (af (x6+1))) else(lP.l0 k7 t x4 x5 (af (x6+1)))) else(some (x4,x5))
def lP.f (t:aJ):Option (Int×(List Int)):=lP.l0 fuel t (-1) [] 0
def lP.R (r:(Int×(List Int))):bm:=λu G=> ∃a0 n0 H0,ak (Fl.int .u8) 5 r.2 a0 n0 H0/\(r.2=[]->a0=none)/\u=(.tuple #[(ii r.1),(ll a0 r.2 n0)])/\G=[H0]
theorem lP.c (H:lP.f t=some r) (eB:aU (Fl.int .u8) t.C iN F) (fI:aa t.C<=iR):
 QR 282 [(.agg #[(ii t.W),(ii t.H),(ll iN t.C iR)])] [] [] F (lP.R r):=by
 unfold lP.f at H;refine aH Tryz.func282 J J (λW=>rc T 2 (nc T J (λb1=>ro T 17 (bC (lq [1] [0,0] (λ(⟨k7,x4,x5,x6,a3,n3,H3⟩:Nat×Int×List Int×Int×Option Addr×Nat×Hp)=>(lP.l0 k7 t x4 x5 x6=some r/\ak (Fl.int .u8) 5 x5 a3 n3 H3/\(x5=[]->a3=none),[(4,(ii x4)),(5,(ll a3 x5 n3)),(8,(ii x6))],[H3])) J J (fuel,(-1),[],0,none,0,[]) [0,0,0] ⟨H,ak.nil,(λ_=>rfl)⟩ J J ?_)))));rintro k7 ⟨x4,x5,x6,a3,n3,H3⟩ ⟨Z1,s3,r3⟩;rw[lP.l0] at Z1;refine rc T 6 (cd J Z1 (λZ1=>?_) (λZ1=>?_))
 ·refine rc T 12 (lm T 1 J (ro T 1 (kr jI.R [] [] J afn Z1 (jI.c · (rO eB 0) fI) (λv8 Z1=>?_))));rintro _ _ ⟨a4,n4,H4,s4,r4,rfl,rfl⟩;refine fz J (ro T 3 (mq Z1 [1,4,5,6,7,8] [0,0,0,0] (λmS (x9:Bool)=>(x9=mS,[(26,(bb x9))],[])) J J (λmS Z4 _=>?_) ?_))
  ·refine rc T 2 (bz J (adu T J J J J s4 r4) (ro T 1 (ab 16 J Z4 (λZ4=>?_) (λZ4=>?_))))
   ·refine ro T 1 (bz J (adt T J J J J s3 r3) (ro T 1 (ab 19 J Z4 (λZ4=>?_) (λZ4=>?_))))
    ·refine ro T 9 (am _ [0,0,0,0] (oi Z4) J J)
    refine ro T 9 (am _ [0,0,0,0] (oi Z4) J J)
   refine ro T 12 (am _ [0,0,0,0] (oi Z4) J J)
  rintro _ x9 rfl Z1;refine cb J Z1 (λZ1=>?_) (λZ1=>?_)
  ·refine rc T 13 (ar (_,_,_,_,_,_) [0,0,1] ⟨Z1,s4,r4⟩ J J)
  refine rc T 8 (ar (_,_,_,_,_,_) [0,0,0] ⟨Z1,s3,r3⟩ J J)
 refine rc T 14 ?_
 cases Z1;exact p1 T J [2,0] ⟨a3,n3,H3,s3,r3,J,J⟩ J
def tv.f (t:aJ):Option ((List Int)×Int):=(uX.f t).bind λv1=>if(!v1)=true then(some ([],1)) else((lP.f t).bind λv2=>some (v2.2,0))
def tv.R (r:((List Int)×Int)):bm:=λu G=> ∃a0 n0 H0,ak (Fl.int .u8) 5 r.1 a0 n0 H0/\u=(.tuple #[(ll a0 r.1 n0),(ii r.2)])/\G=[H0]
theorem tv.c (H:tv.f t=some r) (eB:aU (Fl.int .u8) t.C iN F) (fI:aa t.C<=iR):
 QR 253 [(.agg #[(ii t.W),(ii t.H),(ll iN t.C iR)])] [] [] F (tv.R r):=by
 unfold tv.f at H;refine aH Tryz.func253 J J (λW=>rc T 2 (nc T J (λb1=>ro T 7 (lm T 1 J (k [] J K4 H (uX.c · (rO eB 0) fI) (λv1 H=>ro T 3 (cb J H (λH=>?_) (λH=>?_))))))))
 ·refine rc T 8 ?_
  cases H;refine bC (p1 T J [2,0] ⟨none,0,[],ak.nil,J,J⟩ J)
 refine rc T 4 (lm T 1 J (kr lP.R [] [] J afh H (lP.c · (rO eB 0) fI) (λv2 H=>?_)));rintro _ _ ⟨a3,n3,H3,s3,r3,rfl,rfl⟩;refine fz J (ro T 15 ?_)
 cases H;exact p1 T J [2,0] ⟨a3,n3,H3,s3,J,J⟩ J
def xc.f (ai:fm) (w:Int) (h:Int):Option (aJ×Er×fm):=(qV.f ai (af (w*h))).bind λv1=>(o_.f v1.1).bind λv2=>(if(Er.isNil v1.2.1)=true then((tv.f (aJ.mk w h v2)).bind λv5=>if(0<=(0:Int)/\(0:Int)<=v1.2.2.bc/\v1.2.2.bc<=(aa ai.b:Int)) then((EP.f v5.1 (aB ai.b 0 v1.2.2.bc)).bind λv6=>if(!v6)=true then(some (Er.dW 5)) else(some v1.2.1)) else none) else(some v1.2.1)).bind λx3=>if(Er.isNil x3)=true then(some ((aJ.mk w h v2),Er.nil,(fm.mk ai.b v1.2.2.bc))) else((wA.f x3 (Er.dW 6)).bind λv7=>if v7=true then(some ((aJ.mk 0 0 []),(Er.wrap 343 [v1.2.2.bc,2] x3),(fm.mk ai.b v1.2.2.bc))) else(some ((aJ.mk 0 0 []),(Er.wrap 343 [v1.2.2.bc,3] x3),(fm.mk ai.b v1.2.2.bc))))
def xc.R (el:Nat->Addr) (aY:Nat) (y0:Value) (r:(aJ×Er×fm)):bm:=λu G=> ∃(a0 n0 H0:_) (v1:Value) (H1:Hp),ak (Fl.int .u8) 5 r.1.C a0 n0 H0/\gz 414 el r.2.1 v1 H1/\u=(.tuple #[(.agg #[(ii r.1.W),(ii r.1.H),(ll a0 r.1.C n0)]),v1])/\G=[H0,H1,(cl aY 340 [y0,(ii r.2.2.bc)])]
theorem xc.c (H:xc.f ai w h=some r) (hG:fR 414 fk gZ el F) (nR:aU (Fl.int .u8) ai.b iE F) (kY:aa ai.b<=iy):
 QR 230 [(pp aY),(ii w),(ii h)] [(cl aY 340 [(ll iE ai.b iy),(ii ai.bc)])] [] F (xc.R el aY (ll iE ai.b iy) r):=by
 unfold xc.f at H;refine aH Tryz.func230 J J (λW=>rc T 2 (nc T J (λb2=>ro T 9 (kr (qV.R el aY (ll iE ai.b iy) ai.b iE iy) [] [0] J ae5 H (qV.c · (dE hG (j:=0) J) (rO nR 0) kY) (λv1 H=>?_)))));rintro _ _ ⟨a3,n3,H3,v4,H4,s3,s4,rfl,rfl⟩;refine fz J (ro T 12 (kr o_.R [] [] J OE H (o_.c · (abN s3 (j:=2) J (rO nR 0) kY) s3.ck) (λv2 H=>?_)));rintro _ _ ⟨a5,n5,H5,s5,rfl,rfl⟩;refine fz J (ro T 1 (nc T J (λb6=>sg T 6 J (ro T 1 (ke [0,6,9,10] [0,0,1,1,1,1] J J (rx T 1 (mq H [0,6,10] [0,2,0,2,1] (λz4 (⟨x3,Es,H7⟩:Er×Value×Hp)=>(x3=z4/\gz 414 el x3 Es H7,[(9,Es)],[H7])) J J (λz4 Z3 _=>?_) ?_)))))))
 ·refine rc T 3 (bz J (KG T J J J (sW s4 (j:=2) J)) (ro T 2 (cb J Z3 (λZ3=>?_) (λZ3=>?_))))
  ·refine rc T 2 (lm T 5 J (kr tv.R [] [] J ae6 Z3 (tv.c (t:=(aJ.mk w h v2)) · (oO s5 4) s5.ck) (λv5 Z3=>?_)));rintro _ _ ⟨a8,n8,H8,s8,rfl,rfl⟩;refine fz J (ro T 8 (dy mix aA ?_))
   iterate 4 refine au T J ?_
   refine cB T 3 J J J (au T J (au T J (au T J (cB T 3 J J J ?_))));obtain⟨c6,Z3⟩:=aF Z3;refine br J J J (lb T J J J J J J c6 kY) ?_;obtain⟨v6,V7,Z3⟩:=fY Z3;refine sP J J J J J J ae7 J (EP.c V7 (oO s8 6) s8.ck (od (rO nR 0) c6 kY) (nC c6 kY)) (au T J (cU (rx T 1 (cb J Z3 (λZ3=>?_) (λZ3=>?_)))))
   ·refine rc T 1 (lg T J (tm (j:=0) J hG (g:=5) (by decide)) (ro T 3 (bC (am (_,_,_) [0,2,0,2,1,2] ⟨oi Z3,py⟩ J J))))
   refine rc T 2 (am (_,_,_) [0,2,0,2,1,0] ⟨oi Z3,s4⟩ J J)
  refine rc T 2 (am (_,_,_) [0,2,0,2,1,0] ⟨oi Z3,s4⟩ J J)
 rintro _ ⟨x3,Es,H7⟩ ⟨rfl,s7⟩ H;refine rc T 4 (bz J (KG T J J J (sW s7 (j:=5) J)) (ro T 2 (cb J H (λH=>?_) (λH=>?_))))
 ·refine rc T 2 (lm T 3 J (sg T 2 J (ro T 5 ?_)))
  cases H;refine bC (pb T J (.c_ (j:=2) [(ii w),(ii h),(ll a5 v2 n5)] J J J J J J J (.tmp J .nil)) [4,5,1,0] ⟨(_,_),a5,n5,H5,.nilIface,[],s5,vf,J,J⟩ J J)
 refine rc T 7 (lf T 1 J (ro T 1 (bz J (TN (vs:=[(0,(ii v1.2.2.bc)),(1,(ii 3)),(2,Es)]) T [(0,[(ii v1.2.2.bc)]),(1,[(ii 3)]),(2,[Es])] J J J J J (by simp only[List.map,Tt s7];rfl) J) ?_)))
 refine nc T J (λgm=>ro T 7 (lg T J (tm (j:=0) J hG (g:=6) (by decide)) (k [] J K7 H (wA.c x3 (Er.dW 6) _ _ · (dE hG (j:=0) J) (sW s7 (j:=5) J) Ks) (λv7 H=>ro T 2 (cb J H (λH=>?_) (λH=>?_))))))
 ·refine rc T 4 (sg T 6 J (ro T 6 (gM [6,5] J (bz J (iG T J J J J) (sg T 2 J (ro T 2 (ke [6,7] [0,0,0,2] J J (rx T 2 ?_))))))))
  cases H;refine bC (pb T J (.c_ (j:=2) [(ii 0),(ii 0),nl] J J J J J J J (.tmp J .nil)) [4,3,1,0] ⟨(_,_),none,0,[],(.iface 343 (pp gm)),(bo [(cl gm 346 [(ii v1.2.2.bc),(ii 2),Es]),H7]),ak.nil,(qL s7),J,J⟩ J J)
 refine rc T 6 (gM [6,5] J (bz J (iG T J J J J) (sg T 2 J (ro T 4 ?_))))
 cases H;refine bC (pb T J (.c_ (j:=2) [(ii 0),(ii 0),nl] J J J J J J J (.tmp J .nil)) [6,5,1,0] ⟨(_,_),none,0,[],(.iface 343 (pp gm)),(bo [(cl gm 346 [(ii v1.2.2.bc),(ii 3),Es]),H7]),ak.nil,(qL s7),J,J⟩ J J)
def ql.f (b:(List Int)) (w:Int) (h:Int):Option (aJ×Int×Int):=if((((decide (w<1))||(decide (w>16)))||(decide (h<1)))||(decide (h>16)))=true then(some ((aJ.mk 0 0 []),0,1)) else((xc.f (fm.mk b 0) w h).bind λv1=>(Er.GJ 343 v1.2.1).bind λv2=>dA v2 (some (v1.1,v1.2.2.bc,0)) (λlX=>some ((aJ.mk 0 0 []),0,lX.2.1)))
def ql.R (el:Nat->Addr) (r:(aJ×Int×Int)):bm:=λu G=> ∃a0 n0 H0,ak (Fl.int .u8) 5 r.1.C a0 n0 H0/\u=(.tuple #[(.agg #[(ii r.1.W),(ii r.1.H),(ll a0 r.1.C n0)]),(ii r.2.1),(ii r.2.2)])/\G=[H0]
theorem ql.c (H:ql.f b w h=some r) (hG:fR 414 fk gZ el F) (iH:aU (Fl.int .u8) b kE F) (gN:aa b<=ki):
 QR 192 [(ll kE b ki),(ii w),(ii h)] [] [] F (ql.R el r):=by
 unfold ql.f at H;refine aH Tryz.func192 J J (λW=>rc T 2 (nc T J (λb1=>ro T 10 (go T [3,4,5] 14 [0,1,2,6] 17 J J J J J J J (ro T 1 (go T [7,8,9] 18 [0,1,2,6] 21 J J J J J J J (ro T 1 (go T [11,12,13] 22 [0,1,2,6] 25 J J J J J J J (ro T 2 (cb J H (λH=>?_) (λH=>?_)))))))))))
 ·refine rc T 3 (sg T 1 J (ro T 6 ?_))
  cases H;refine bC (pb T J (.c_ (j:=1) [(ii 0),(ii 0),nl] J J J J J J J (.tmp J (.tmp J .nil))) [2,0] ⟨(_,_),none,0,[],ak.nil,J,J⟩ J J)
 refine rc T 6 (nc T J (λb3=>ro T 8 (kr (xc.R el b3 (ll kE b ki)) [] [2] J aeQ H (xc.c (ai:=(fm.mk b 0)) · (dE hG (j:=0) J) (rO iH 0) gN) (λv1 H=>?_))));rintro _ _ ⟨a4,n4,H4,v5,H5,s4,s5,rfl,rfl⟩;refine fz J (ro T 3 (sg T 1 J (ro T 2 (ks [6,9,10] J (rx T 4 (nc T J (λb6=>sg T 5 J (ro T 5 (bz J (iG T J J J J) ?_)))))))));obtain⟨v2,V3,H⟩:=fY H;rcases v2 with _ |lX
 ·replace H:=fx J H;obtain⟨N',N1⟩:=aaE V3 s5;subst N';subst N1;refine ba (wm (As:=[(cl b6 343 [(.pointer none)])]) (R:=[F,(cl b1 139 [(ii v1.1.W),(ii v1.1.H),(ll a4 v1.1.C n4)]),H4,[],(cl b3 340 [(ll kE b ki),(ii v1.2.2.bc)])]) (B:=λ_=>[(cl b6 343 [(.pointer none)])]) [5] J J J J K8 J J (N8.n _ (dE hG (j:=0) J)) (λ_=>ro T 2 (fj J (rc T 3 (ke [6,9] [0,0,0,1] J J (fz J (rz [] mix (bU bT) (λhg pf=>av 0 sz hg pf J (gA T 1 J J J J J J J) (ha T 4 [1,2,3] sz hg pf J (al T 4 3 sz hg pf J J J (ao 5 (sf T 1 J (an sz (ha T 0 [6,7] sz hg pf J (ae (rx T 2 ?_))))))))))))))))
  cases H;exact pb T J (.c_ (j:=1) [(ii v1.1.W),(ii v1.1.H),(ll a4 v1.1.C n4)] J J J J J J J (.tmp J (.tmp J .nil))) [2,0] ⟨(_,_),a4,n4,H4,s4,J,J⟩ J J
 replace H:=fy J H;obtain⟨b7,v8_,ZY,H8,N',N1,s8⟩:=aaF V3 s5;subst N';subst N1;refine Kb (j:=3) J (ba (wm (As:=[(cl b6 343 [(.pointer none)])]) (R:=[F,(cl b1 139 [(ii v1.1.W),(ii v1.1.H),(ll a4 v1.1.C n4)]),H4,[(b7,Obj.cells #[(ii lX.1),(ii lX.2.1),v8_] ZY (0,0))],(cl b3 340 [(ll kE b ki),(ii v1.2.2.bc)]),H8]) (B:=λ_=>[(cl b6 343 [(pp b7)])]) [5] J J J J K8 J J (N8.s _ _ (dE hG (j:=0) J)) (λ_=>ro T 2 (oA J (rc T 1 (ke [6,11] [0,0,0,0,1,1] J J (fz J (rg [] [0,1,1,1,1] mix (bU bT) (λhg pf=>ha T 7 [0] (so [0,1,1,1,1]) hg pf J (al T 1 4 (so [0,1,1,1,1]) hg pf J J J (ha T 4 [2,3] (so [0,1,1,1,1]) hg pf J (al T 4 2 (so [0,1,1,1,1]) hg pf J J J (ao 5 (sf T 1 J (an (so [0,1,1,1,1]) (ha T 1 [6] (so [0,1,1,1,1]) hg pf J (ha T 0 [7] (so [0,1,1,1,1]) hg pf J (ae (rx T 3 ?_)))))))))))))))))))
 cases H;refine bC (pb T J (.c_ (j:=1) [(ii 0),(ii 0),nl] J J J J J J J (.tmp J (.tmp J .nil))) [6,0] ⟨(_,_),none,0,[],ak.nil,J,J⟩ J J)
end
noncomputable section
def ph.f (w:Int) (h:Int):Option Bool:=some ((((decide (w≥1))&&(decide (w<=1024)))&&(decide (h≥1)))&&(decide (h<=1024)))
theorem ph.c (H:ph.f w h=some r):
 QU 96 [(ii w),(ii h)] [] F (bb r):=by
 unfold ph.f at H;refine aH Tryz.func96 J J (λW=>rc T 10 (ga T [3,4,5] 7 [1] 10 J J J J J J J (ro T 1 (ga T [7,8,9] 11 [1] 14 J J J J J J J (ro T 1 (ga T [11,12,13] 15 [] 18 J J J J J J J (ro T 4 ?_)))))))
 cases H;exact p0 T J [0] J
def rp.f (w:Int) (h:Int):Option (Int×Int):=(ph.f w h).bind λv1=>if(!v1)=true then(some (0,0)) else(some ((af (dm (af ((af (w+16))-1)) 16)),(af (dm (af ((af (h+16))-1)) 16))))
theorem rp.c (H:rp.f w h=some r):
 QU 59 [(ii w),(ii h)] [] F (.tuple #[(ii r.1),(ii r.2)]):=by
 unfold rp.f at H;refine aH Tryz.func59 J J (λW=>rc T 11 (k [] J C9 H (ph.c ·) (λv1 H=>ro T 3 (cb J H (λH=>?_) (λH=>?_)))))
 ·refine rc T 8 ?_
  cases H;exact p0 T J [0] J
 refine rc T 17 ?_
 cases H;exact p0 T J [0] J
def AU.f (w:Int) (h:Int) (bI:Int):Option (Int×Int×Bool):=(rp.f w h).bind λv1=>if((decide (bI<0))||(decide (bI≥(af (v1.1*v1.2)))))=true then(some (0,0,false)) else(if(¬v1.1=0) then(if(¬v1.1=0) then(some ((af ((fJ bI v1.1)*16)),(af ((af (dm bI v1.1))*16)),true)) else none) else none)
theorem AU.c (H:AU.f w h bI=some r):
 QU 201 [(ii w),(ii h),(ii bI)] [] F (.tuple #[(ii r.1),(ii r.2.1),(bb r.2.2)]):=by
 unfold AU.f at H;refine aH Tryz.func201 J J (λW=>rc T 11 (k [] J HB H (rp.c ·) (λv1 H=>ro T 13 (go T [3,4,5,6,7,8] 19 [2,9] 25 J J J J J J J (ro T 2 (cb J H (λH=>?_) (λH=>?_)))))))
 ·refine rc T 9 ?_
  cases H;exact p0 T J [0] J
 refine rc T 3 (dy mix aA (au T J (au T J ?_)));obtain⟨c3,H⟩:=aF H;refine br J J J (vh J J J c3) (au T J (au T J (au T J ?_)));obtain⟨c4,H⟩:=aF H;refine br J J J (vg J J J c4) ?_
 iterate 4 refine au T J ?_
 refine cU (rx T 2 ?_)
 cases H;exact p0 T J [0] J
def sB.f (w:Int) (h:Int) (bI:Int):Option (Int×Int):=(AU.f w h bI).bind λv1=>if(!v1.2.2)=true then(some (0,0)) else(some ((if(af (w-v1.1))<16 then(af (w-v1.1)) else 16),(if(af (h-v1.2.1))<16 then(af (h-v1.2.1)) else 16)))
theorem sB.c (H:sB.f w h bI=some r):
 QU 172 [(ii w),(ii h),(ii bI)] [] F (.tuple #[(ii r.1),(ii r.2)]):=by
 unfold sB.f at H;refine aH Tryz.func172 J J (λW=>rc T 11 (k [] J UZ H (AU.c ·) (λv1 H=>ro T 16 (cb J H (λH=>?_) (λH=>?_)))))
 ·refine rc T 8 ?_
  cases H;exact p0 T J [0] J
 refine rc T 17 ?_
 cases H;exact p0 T J [0] J
def AR.f (w:Int) (h:Int) (x:Int) (y:Int):Option Int:=(ph.f w h).bind λv1=>if(((((!v1)||(decide (x<0)))||(decide (x≥w)))||(decide (y<0)))||(decide (y≥h)))=true then(some (-1)) else(some (af ((af (y*w))+x)))
theorem AR.c (H:AR.f w h x y=some r):
 QU 202 [(ii w),(ii h),(ii x),(ii y)] [] F (ii r):=by
 unfold AR.f at H;refine aH Tryz.func202 J J (λW=>rc T 10 (k [] J C9 H (ph.c ·) (λv1 H=>ro T 2 (go T [5,6,7] 13 [0,1,2,3] 16 J J J J J J J (ro T 1 (go T [9,10,11,12] 17 [0,1,2,3] 21 J J J J J J J (ro T 1 (go T [14,15,16] 22 [0,1,2,3] 25 J J J J J J J (ro T 1 (go T [18,19,20,21] 26 [0,2,3] 30 J J J J J J J (ro T 2 (cb J H (λH=>?_) (λH=>?_)))))))))))))
 ·refine rc T 7 ?_
  cases H;exact p0 T J [0] J
 refine rc T 13 ?_
 cases H;exact p0 T J [0] J
def u6.f (w:Int) (h:Int) (bI:Int) (p3:Int):Option Int:=(AU.f w h bI).bind λv1=>(sB.f w h bI).bind λv2=>if(((!v1.2.2)||(decide (p3<0)))||(decide (p3≥(af (v2.1*v2.2)))))=true then(some (-1)) else(if(¬v2.1=0) then(if(¬v2.1=0) then((AR.f w h (af (v1.1+(fJ p3 v2.1))) (af (v1.2.1+(af (dm p3 v2.1))))).bind λv3=>some v3) else none) else none)
theorem u6.c (H:u6.f w h bI p3=some r):
 QU 173 [(ii w),(ii h),(ii bI),(ii p3)] [] F (ii r):=by
 unfold u6.f at H;refine aH Tryz.func173 J J (λW=>rc T 10 (k [] J UZ H (AU.c ·) (λv1 H=>ro T 14 (k [] J Hw H (sB.c ·) (λv2 H=>ro T 13 (go T [3,4,5] 31 [0,1,3,9,10,12,13] 34 J J J J J J J (ro T 1 (go T [7,8,9,10,11,12] 35 [0,1,3,9,10,12] 41 J J J J J J J (ro T 2 (cb J H (λH=>?_) (λH=>?_)))))))))))
 ·refine rc T 7 ?_
  cases H;exact p0 T J [0] J
 refine rc T 3 (dy mix aA ?_)
 iterate 5 refine au T J ?_
 obtain⟨c4,H⟩:=aF H;refine br J J J (vh J J J c4) ?_
 iterate 4 refine au T J ?_
 obtain⟨c5,H⟩:=aF H;refine br J J J (vg J J J c5) (au T J ?_);obtain⟨v3,V6,H⟩:=fY H;refine sP J J J J J J U0 J (AR.c V6) (au T J (cU (rx T 2 ?_)))
 cases H;exact p0 T J [0] J
def xF.f (w:Int) (h:Int) (cell:Int):Option Bool:=(ph.f w h).bind λv1=>some ((v1&&(decide (cell≥0)))&&(decide (cell<(af (w*h)))))
theorem xF.c (H:xF.f w h cell=some r):
 QU 95 [(ii w),(ii h),(ii cell)] [] F (bb r):=by
 unfold xF.f at H;refine aH Tryz.func95 J J (λW=>rc T 9 (k [] J C9 H (ph.c ·) (λv1 H=>ro T 1 (ga T [4,5,6] 10 [0,1,2] 13 J J J J J J J (ro T 1 (ga T [8,9,10,11,12,13] 14 [] 20 J J J J J J J (ro T 4 ?_)))))))
 cases H;exact p0 T J [0] J
def xE.f (w:Int) (h:Int) (cell:Int):Option (Int×Int):=(xF.f w h cell).bind λv1=>if(!v1)=true then(some ((-1),(-1))) else(if(¬w=0) then(if(¬w=0) then(some ((fJ cell w),(af (dm cell w)))) else none) else none)
theorem xE.c (H:xE.f w h cell=some r):
 QU 58 [(ii w),(ii h),(ii cell)] [] F (.tuple #[(ii r.1),(ii r.2)]):=by
 unfold xE.f at H;refine aH Tryz.func58 J J (λW=>rc T 12 (k [] J O9 H (xF.c ·) (λv1 H=>ro T 3 (cb J H (λH=>?_) (λH=>?_)))))
 ·refine rc T 8 ?_
  cases H;exact p0 T J [0] J
 refine rc T 3 (dy mix aA (au T J (au T J ?_)));obtain⟨c3,H⟩:=aF H;refine br J J J (vh J J J c3) (au T J (au T J ?_));obtain⟨c4,H⟩:=aF H;refine br J J J (vg J J J c4) (au T J (au T J (cU (rx T 2 ?_))))
 cases H;exact p0 T J [0] J
def gJ.f (w:Int) (h:Int) (cell:Int):Option Int:=(xE.f w h cell).bind λv1=>if v1.1<0 then(some (-1)) else((rp.f w h).bind λv2=>some (af ((af ((af (dm v1.2 16))*v2.1))+(af (dm v1.1 16)))))
theorem gJ.c (H:gJ.f w h cell=some r):
 QU 26 [(ii w),(ii h),(ii cell)] [] F (ii r):=by
 unfold gJ.f at H;refine aH Tryz.func26 J J (λW=>rc T 10 (k [] J O0 H (xE.c ·) (λv1 H=>ro T 14 (cd J H (λH=>?_) (λH=>?_)))))
 ·refine rc T 7 ?_
  cases H;exact p0 T J [0] J
 refine rc T 6 (k [] J HB H (rp.c ·) (λv2 H=>ro T 20 ?_))
 cases H;exact p0 T J [0] J
def mP.f (w:Int) (h:Int) (cell:Int) (side:Int):Option Int:=(xE.f w h cell).bind λv1=>if v1.1<0 then(some (-1)) else((if(side==0)=true then(some (Sum.inr (v1.1,(af (v1.2+(-1)))))) else(if(side==2)=true then(some (Sum.inr (v1.1,(af (v1.2+1))))) else(if(side==3)=true then(some (Sum.inr ((af (v1.1+(-1))),v1.2))) else(if(side==1)=true then(some (Sum.inr ((af (v1.1+1)),v1.2))) else(if(side==4)=true then(some (Sum.inr (v1.1,v1.2))) else(some (Sum.inl (-1)))))))).bind λzz=>match zz with |Sum.inl q=>some q |Sum.inr (x2,x3)=>(AR.f w h x2 x3).bind λv5=>some v5)
theorem mP.c (H:mP.f w h cell side=some r):
 QU 207 [(ii w),(ii h),(ii cell),(ii side)] [] F (ii r):=by
 unfold mP.f at H;refine aH Tryz.func207 J J (λW=>rc T 10 (k [] J O0 H (xE.c ·) (λv1 H=>ro T 14 (cd J H (λH=>?_) (λH=>?_)))))
 ·refine rc T 7 ?_
  cases H;exact p0 T J [0] J
 refine rc T 7 (mq H [0,1] [0] (λz4 (⟨x2,x3⟩:Int×Int)=>((Sum.inr (x2,x3))=z4,[(9,(ii x2)),(10,(ii x3))],[])) J J (λz4 Z3 H=>?_) ?_)
 ·refine rc T 26 (cb J Z3 (λZ3=>?_) (λZ3=>?_))
  ·refine rc T 29 (am (_,_) [0] (oi Z3) J J)
  refine rc T 9 (cb J Z3 (λZ3=>?_) (λZ3=>?_))
  ·refine rc T 26 (am (_,_) [0] (oi Z3) J J)
  refine rc T 9 (cb J Z3 (λZ3=>?_) (λZ3=>?_))
  ·refine rc T 29 (am (_,_) [0] (oi Z3) J J)
  refine rc T 9 (cb J Z3 (λZ3=>?_) (λZ3=>?_))
  ·refine rc T 26 (am (_,_) [0] (oi Z3) J J)
  refine rc T 8 (cb J Z3 (λZ3=>?_) (λZ3=>?_))
  ·refine rc T 17 (am (_,_) [0] (oi Z3) J J)
  refine rc T 25 ?_;obtain rfl:=Option.some.inj Z3;obtain rfl:=Option.some.inj (show some (-1)=some r from H)
  exact p0 T J [0] J
 rintro _ ⟨x2,x3⟩ rfl H;refine rc T 6 (k [] J U0 H (AR.c ·) (λv5 H=>ro T 4 ?_))
 cases H;exact p0 T J [0] J
def sx.f (w:Int) (h:Int) (cell:Int):Option Int:=(xE.f w h cell).bind λv1=>if v1.1<0 then(some (-1)) else((gJ.f w h cell).bind λv2=>(sB.f w h v2).bind λv3=>some (af ((af ((fJ v1.2 16)*v3.1))+(fJ v1.1 16))))
theorem sx.c (H:sx.f w h cell=some r):
 QU 165 [(ii w),(ii h),(ii cell)] [] F (ii r):=by
 unfold sx.f at H;refine aH Tryz.func165 J J (λW=>rc T 10 (k [] J O0 H (xE.c ·) (λv1 H=>ro T 14 (cd J H (λH=>?_) (λH=>?_)))))
 ·refine rc T 7 ?_
  cases H;exact p0 T J [0] J
 refine rc T 9 (k [] J tf H (gJ.c ·) (λv2 H=>k [] J Hw H (sB.c ·) (λv3 H=>ro T 20 ?_)))
 cases H;exact p0 T J [0] J
def ru.l0:Nat->Int->Int->Int->Int->Int->Option Int
 |0,_,_,_,_,_=>none
 |k7+1,w,h,a,b,x6=>if x6<=4 then((mP.f w h a x6).bind λv8=>if(v8==b)=true then(some x6) else(ru.l0 k7 w h a b (af (x6+1)))) else(some 5)
def ru.f (w:Int) (h:Int) (a:Int) (b:Int):Option Int:=((xF.f w h a).bind λv3=>if(!v3)=true then(some true) else((xF.f w h b).bind λv4=>some (!v4))).bind λx1=>if x1=true then(some 5) else(ru.l0 fuel w h a b 0)
theorem ru.c (H:ru.f w h a b=some r):
 QU 178 [(ii w),(ii h),(ii a),(ii b)] [] F (ii r):=by
 unfold ru.f at H;refine aH Tryz.func178 J J (λW=>rc T 6 (mq H [0,1,2,3] [0] (λz2 (x1:Bool)=>(x1=z2,[(21,(bb x1))],[])) J J (λz2 Z1 _=>?_) ?_))
 ·refine rc T 4 (k [] J O9 Z1 (xF.c ·) (λv3 Z1=>ro T 2 (ab 15 J Z1 (λZ1=>?_) (λZ1=>?_))))
  ·refine ro T 8 (am _ [0] (oi Z1) J J)
  refine ro T 3 (k [] J O9 Z1 (xF.c ·) (λv4 Z1=>ro T 4 (am _ [0] (oi Z1) J J)))
 rintro _ x1 rfl H;refine cb J H (λH=>?_) (λH=>?_)
 ·refine rc T 7 ?_
  cases H;exact p0 T J [0] J
 refine rc T 9 (lq [0,1,2,3] [0] (λ(⟨k7,x6⟩:Nat×Int)=>(ru.l0 k7 w h a b x6=some r,[(9,(ii x6))],[])) J J (fuel,0) [0] H J J ?_);rintro k7 x6 Z6;replace Z6:ru.l0 (k7+1) w h a b x6=some r:=Z6;rw[ru.l0] at Z6;refine rc T 7 (cd J Z6 (λZ6=>?_) (λZ6=>?_))
 ·refine rc T 10 (k [] J Bq Z6 (mP.c ·) (λv8 Z6=>ro T 4 (cb J Z6 (λZ6=>?_) (λZ6=>?_))))
  ·refine rc T 12 ?_
   cases Z6;exact p0 T J [0] J
  refine rc T 9 (ar _ [0] Z6 J J)
 refine rc T 11 ?_
 cases Z6;exact p0 T J [0] J
end
noncomputable section
def Ba.f (w:Int) (h:Int):Option Int:=(rp.f w h).bind λv1=>some (af (v1.1*v1.2))
theorem Ba.c (H:Ba.f w h=some r):
 QU 191 [(ii w),(ii h)] [] F (ii r):=by
 unfold Ba.f at H;refine aH Tryz.func191 J J (λW=>rc T 9 (k [] J HB H (rp.c ·) (λv1 H=>ro T 16 ?_)))
 cases H;exact p0 T J [0] J
def pt.l0:Nat->aJ->aJ->Int->List Int->Int->Option (List Int)
 |0,_,_,_,_,_=>none
 |k6+1,m,t,v1,x4,x5=>if x5<t.H then(if(0<=(af (v1+(af (x5*m.W))))/\(af (v1+(af (x5*m.W))))<=(aa x4:Int)/\(aa x4:Int)<=(aa x4:Int)) then(if(0<=(af (x5*t.W))/\(af (x5*t.W))<=(af ((af (x5+1))*t.W))/\(af ((af (x5+1))*t.W))<=(aa t.C:Int)) then(pt.l0 k6 m t v1 (cC x4 (ax (af (v1+(af (x5*m.W))))) (min (aa (aB t.C (af (x5*t.W)) (af ((af (x5+1))*t.W)))) (aa (aB x4 (af (v1+(af (x5*m.W)))) (aa x4:Int)))) (aB t.C (af (x5*t.W)) (af ((af (x5+1))*t.W)))) (af (x5+1))) else none) else none) else(some x4)
def pt.f (m:aJ) (bI:Int) (t:aJ):Option (List Int):=(u6.f m.W m.H bI 0).bind λv1=>pt.l0 fuel m t v1 m.C 0
def pt.R (akU:Option Addr) (ak8:Nat) (ak6:Nat) (r:(List Int)):bm:=λu G=> ∃(H0:Hp),ak (Fl.int .u8) 5 r akU ak8 H0/\aa r=ak6/\u=(.tuple #[])/\G=[H0]
theorem pt.c (H:pt.f m bI t=some r) (ajB:ak (Fl.int .u8) 5 m.C oy nX Rz) (eB:aU (Fl.int .u8) t.C iN F) (fI:aa t.C<=iR):
 QR 193 [(.agg #[(ii m.W),(ii m.H),(ll oy m.C nX)]),(ii bI),(.agg #[(ii t.W),(ii t.H),(ll iN t.C iR)])] [Rz] [] F (pt.R oy nX (aa m.C) r):=by
 unfold pt.f at H;refine aH Tryz.func193 J J (λW=>rc T 2 (nc T J (λb2=>nc T J (λb3=>ro T 5 (lf T 2 J (ro T 1 (lf T 2 J (ro T 1 (k [] J KZ H (u6.c ·) (λv1 H=>ro T 6 (lf T 3 J (ro T 4 (lq [3,5,6,15] [1,2] (λ(⟨k6,x4,x5,H5⟩:Nat×List Int×Int×Hp)=>(pt.l0 k6 m t v1 x4 x5=some r/\ak (Fl.int .u8) 5 x4 oy nX H5/\aa x4=aa m.C,[(16,(ii x5))],[(cl b2 30 [(ii m.W),(ii m.H),(ll oy x4 nX)]),H5])) J J (fuel,m.C,0,Rz) [1,2,1,0] ⟨H,ajB,J⟩ J J ?_)))))))))))));rintro k6 ⟨x4,x5,H5⟩ ⟨Z2,s5,l5⟩;rw[pt.l0] at Z2;refine rc T 6 (cd J Z2 (λZ2=>?_) (λZ2=>?_))
 ·refine rc T 10 (fz J (rz [21] mix (bU bT) (λhg pf=>ha T 21 [0] sz hg pf J (al T 1 2 sz hg pf J J J (ha T 17 [2,3,4] sz hg pf J (al T 5 2 sz hg pf J J J (ha T 14 [6,7] sz hg pf J ?_)))))));obtain⟨c4,Z2⟩:=aF Z2;refine av 8 sz hg pf J (lb T J J J J J J c4 s5.ck) (ha T 12 [9] sz hg pf J (al T 10 1 sz hg pf J J J (ha T 9 [11,12] sz hg pf J (al T 13 1 sz hg pf J J J (ha T 4 [14,15,16,17] sz hg pf J (al T 18 1 sz hg pf J J J (ha T 2 [19] sz hg pf J ?_)))))));obtain⟨c5,Z2⟩:=aF Z2;refine av 20 sz hg pf J (lb T J J J J J J c5 fI) (ao 21 ?_);have L6:(ax (af (v1+(af (x5*m.W)))))+(aa (aB x4 (af (v1+(af (x5*m.W)))) (aa x4:Int)))<=aa x4:=(Jl c4);refine CI (k:=(Fl.int .u8)) (xs:=x4) (ys:=(aB t.C (af (x5*t.W)) (af ((af (x5+1))*t.W)))) (lo:=(ax (af (v1+(af (x5*m.W)))))) (g:=3) T J J J J J J J J s5 (od (rO eB 0) c5 fI) (.inr J) L6 (λH6 s6=>?_);have V7:(0<=(af (v1+(af (x5*m.W))))/\(af (v1+(af (x5*m.W))))<=(aa x4:Int)/\(aa x4:Int)<=(aa (cC x4 (ax (af (v1+(af (x5*m.W))))) (min (aa (aB t.C (af (x5*t.W)) (af ((af (x5+1))*t.W)))) (aa (aB x4 (af (v1+(af (x5*m.W)))) (aa x4:Int)))) (aB t.C (af (x5*t.W)) (af ((af (x5+1))*t.W)))):Int)):=by simp only[my L6];exact c4
  refine kg [3,5,6,7,15,16,19,21,22,23,24,25,26,28,29,30,31,32,33,34,35,36,37,38,39,40] [0,0,1] [0,0,1,0] [(20,(ll oy (cC x4 (ax (af (v1+(af (x5*m.W))))) (min (aa (aB t.C (af (x5*t.W)) (af ((af (x5+1))*t.W)))) (aa (aB x4 (af (v1+(af (x5*m.W)))) (aa x4:Int)))) (aB t.C (af (x5*t.W)) (af ((af (x5+1))*t.W)))) nX)),(27,(ll (gy oy nX (ax (af (v1+(af (x5*m.W))))) 1) (aB (cC x4 (ax (af (v1+(af (x5*m.W))))) (min (aa (aB t.C (af (x5*t.W)) (af ((af (x5+1))*t.W)))) (aa (aB x4 (af (v1+(af (x5*m.W)))) (aa x4:Int)))) (aB t.C (af (x5*t.W)) (af ((af (x5+1))*t.W)))) (af (v1+(af (x5*m.W)))) (aa x4:Int)) (nX-ax (af (v1+(af (x5*m.W)))))))] [(cl b2 30 [(ii m.W),(ii m.H),(ll oy (cC x4 (ax (af (v1+(af (x5*m.W))))) (min (aa (aB t.C (af (x5*t.W)) (af ((af (x5+1))*t.W)))) (aa (aB x4 (af (v1+(af (x5*m.W)))) (aa x4:Int)))) (aB t.C (af (x5*t.W)) (af ((af (x5+1))*t.W)))) nX)])] J J ⟨(by first |rfl |(simp only[ll,my L6];rfl)),(by simp only[ll];rw[je V7,<-je c4];rfl),trivial⟩ (by first |rfl |(simp only[ll,my L6];rfl)) (an sl (ae (rx T 7 ?_)))
  exact ar (_,_,_) [0,0,1,0] ⟨Z2,s6,(Eq.trans (my L6) l5)⟩ J J
 refine rc T 4 (jB ?_)
 cases Z2;exact p1 T J [3,0] ⟨H5,s5,l5,J,J⟩ J
def na.l0:Nat->(List Int)->Int->List Int->List Int->Int->Option (aJ×Er)
 |0,_,_,_,_,_=>none
 |k9+1,b,v2,x6,x7,x8=>if x8<v2 then((sB.f (af (gi (b_ (IntKind.bits .i64) (af (rd b 0))|||b_ (IntKind.bits .i64) (af ((af (rd b 1))*2^8))))) (af (gi (b_ (IntKind.bits .i64) (af (rd b 2))|||b_ (IntKind.bits .i64) (af ((af (rd b 3))*2^8))))) x8).bind λv10=>(ql.f x6 v10.1 v10.2).bind λv11=>if(v11.2.2 !=0)=true then(some ((aJ.mk 0 0 []),(Er.wrap 301 [x8] (Er.num 243 v11.2.2)))) else((pt.f (aJ.mk (af (gi (b_ (IntKind.bits .i64) (af (rd b 0))|||b_ (IntKind.bits .i64) (af ((af (rd b 1))*2^8))))) (af (gi (b_ (IntKind.bits .i64) (af (rd b 2))|||b_ (IntKind.bits .i64) (af ((af (rd b 3))*2^8))))) x7) x8 v11.1).bind λv12=>if(0<=v11.2.1/\v11.2.1<=(aa x6:Int)/\(aa x6:Int)<=(aa x6:Int)) then(na.l0 k9 b v2 (aB x6 v11.2.1 (aa x6:Int)) v12 (af (x8+1))) else none)) else(if(aa x6:Int)>0 then(some ((aJ.mk 0 0 []),(Er.num 243 3))) else(some ((aJ.mk (af (gi (b_ (IntKind.bits .i64) (af (rd b 0))|||b_ (IntKind.bits .i64) (af ((af (rd b 1))*2^8))))) (af (gi (b_ (IntKind.bits .i64) (af (rd b 2))|||b_ (IntKind.bits .i64) (af ((af (rd b 3))*2^8))))) x7),Er.nil)))
def na.f (b:(List Int)):Option (aJ×Er):=if(aa b:Int)<4 then(some ((aJ.mk 0 0 []),(Er.num 243 2))) else(if(0<=(0:Int)/\(0:Int)<(aa b:Int)) then(if(0<=(1:Int)/\(1:Int)<(aa b:Int)) then(if(0<=(2:Int)/\(2:Int)<(aa b:Int)) then(if(0<=(3:Int)/\(3:Int)<(aa b:Int)) then((ph.f (af (gi (b_ (IntKind.bits .i64) (af (rd b 0))|||b_ (IntKind.bits .i64) (af ((af (rd b 1))*2^8))))) (af (gi (b_ (IntKind.bits .i64) (af (rd b 2))|||b_ (IntKind.bits .i64) (af ((af (rd b 3))*2^8)))))).bind λv1=>if(!v1)=true then(some ((aJ.mk 0 0 []),(Er.num 243 3))) else(if(0<=(4:Int)/\(4:Int)<=(aa b:Int)/\(aa b:Int)<=(aa b:Int)) then(if(0<=(af ((af (gi (b_ (IntKind.bits .i64) (af (rd b 0))|||b_ (IntKind.bits .i64) (af ((af (rd b 1))*2^8)))))*(af (gi (b_ (IntKind.bits .i64) (af (rd b 2))|||b_ (IntKind.bits .i64) (af ((af (rd b 3))*2^8)))))))/\(af ((af (gi (b_ (IntKind.bits .i64) (af (rd b 0))|||b_ (IntKind.bits .i64) (af ((af (rd b 1))*2^8)))))*(af (gi (b_ (IntKind.bits .i64) (af (rd b 2))|||b_ (IntKind.bits .i64) (af ((af (rd b 3))*2^8)))))))<=1099511627776) then((Ba.f (af (gi (b_ (IntKind.bits .i64) (af (rd b 0))|||b_ (IntKind.bits .i64) (af ((af (rd b 1))*2^8))))) (af (gi (b_ (IntKind.bits .i64) (af (rd b 2))|||b_ (IntKind.bits .i64) (af ((af (rd b 3))*2^8)))))).bind λv2=>na.l0 fuel b v2 (aB b 4 (aa b:Int)) (cy (ax (af ((af (gi (b_ (IntKind.bits .i64) (af (rd b 0))|||b_ (IntKind.bits .i64) (af ((af (rd b 1))*2^8)))))*(af (gi (b_ (IntKind.bits .i64) (af (rd b 2))|||b_ (IntKind.bits .i64) (af ((af (rd b 3))*2^8)))))))) (0:Int)) 0) else none) else none)) else none) else none) else none) else none)
def na.R (el:Nat->Addr) (r:(aJ×Er)):bm:=λu G=> ∃(a0 n0 H0:_) (v1:Value) (H1:Hp),ak (Fl.int .u8) 5 r.1.C a0 n0 H0/\gz 414 el r.2 v1 H1/\u=(.tuple #[(.agg #[(ii r.1.W),(ii r.1.H),(ll a0 r.1.C n0)]),v1])/\G=[H0,H1]
theorem na.c (H:na.f b=some r) (hG:fR 414 fk gZ el F) (iH:aU (Fl.int .u8) b kE F) (gN:aa b<=ki):
 QR 147 [(ll kE b ki)] [] [] F (na.R el r):=by
 unfold na.f at H;refine aH Tryz.func147 J J (λW=>rc T 2 (nc T J (λb1=>ro T 11 (cd J H (λH=>?_) (λH=>?_)))))
 ·refine rc T 3 (bz J (iG T J J J J) (sg T 1 J (ro T 5 ?_)))
  cases H;refine bC (bC (pb T J (.c_ (j:=1) [(ii 0),(ii 0),nl] J J J J J J J (.tmp J .nil)) [2,2,0] ⟨(_,_),none,0,[],(.iface 243 (ii 2)),[],ak.nil,sV,J,J⟩ J J))
 refine rc T 3 (ks [0,2] J (fz J (rg [] [0,0] mix (bU bT) (λhg pf=>ha T 22 [0] sz hg pf J ?_))));obtain⟨c2,H⟩:=aF H;obtain⟨q4,o4,e4⟩:=iH.addr c2.1 c2.2;refine av 1 sz hg pf J (cV T J J J J J e4 c2.1 c2.2) (av 2 sz hg pf J (cS T J J J J (iu (k:=(Fl.int .u8)) (rO iH 0) e4 c2 0 J)) (ha T 18 [3,4] sz hg pf J ?_));obtain⟨c3,H⟩:=aF H;refine av 5 sz hg pf J (cV T J J J J J e4 c3.1 c3.2) (av 6 sz hg pf J (cS T J J J J (iu (k:=(Fl.int .u8)) (rO iH 0) e4 c3 0 J)) (ha T 12 [7,8,9,10] sz hg pf J ?_));obtain⟨c4,H⟩:=aF H;refine av 11 sz hg pf J (cV T J J J J J e4 c4.1 c4.2) (av 12 sz hg pf J (cS T J J J J (iu (k:=(Fl.int .u8)) (rO iH 0) e4 c4 0 J)) (ha T 8 [13,14] sz hg pf J ?_));obtain⟨c5,H⟩:=aF H;refine av 15 sz hg pf J (cV T J J J J J e4 c5.1 c5.2) (av 16 sz hg pf J (cS T J J J J (iu (k:=(Fl.int .u8)) (rO iH 0) e4 c5 0 J)) (ha T 2 [17,18,19,20] sz hg pf J (ao 21 (nw T J (λb5=>an (so [0,0]) (ao 22 (sf T 2 J (an (so [0,0]) (ae (rx T 5 (lf T 2 J (ro T 1 (lf T 2 J (k [] J C9 H (ph.c ·) (λv1 H=>ro T 3 (cb J H (λH=>?_) (λH=>?_)))))))))))))))))
 ·refine rc T 3 (bz J (iG T J J J J) (sg T 1 J (ro T 5 ?_)))
  cases H;refine bC (bC (pb T J (.c_ (j:=1) [(ii 0),(ii 0),nl] J J J J J J J (.tmp J .nil)) [3,3,0] ⟨(_,_),none,0,[],(.iface 243 (ii 3)),[],ak.nil,sV,J,J⟩ J J))
 refine rc T 5 ?_;obtain⟨c8,H⟩:=aF H;refine bz J (lb T J J J J J J c8 gN) (ro T 6 (lf T 2 J (ro T 1 (lf T 2 J (ro T 1 ?_)))));obtain⟨c9,H⟩:=aF H;refine ba (zB (k:=(Fl.int .u8)) T (0:Int) J J J J J J J J c9 J (λa8 n8 H8 s8=>ro T 1 (sg T 2 J (ro T 6 (lf T 2 J (ro T 1 (lf T 2 J (k [] J aet H (Ba.c ·) (λv2 H=>ro T 4 (lq [2,4,58] [0,0] (λ(⟨k9,x6,x7,x8,dG,n11,a12,n12,dL⟩:Nat×List Int×List Int×Int×Option Addr×Nat×Option Addr×Nat×Hp)=>(na.l0 k9 b v2 x6 x7 x8=some r/\dJ (Fl.int .u8) b kE ki x6 dG n11/\aa x6<=n11/\ak (Fl.int .u8) 5 x7 a12 n12 dL,[(0,(ll dG x6 n11)),(59,(ii x8))],[(cl b5 30 [(ii (af (gi (b_ (IntKind.bits .i64) (af (rd b 0))|||b_ (IntKind.bits .i64) (af ((af (rd b 1))*2^8)))))),(ii (af (gi (b_ (IntKind.bits .i64) (af (rd b 2))|||b_ (IntKind.bits .i64) (af ((af (rd b 3))*2^8)))))),(ll a12 x7 n12)]),dL])) J J (fuel,(aB b 4 (aa b:Int)),(cy (ax (af ((af (gi (b_ (IntKind.bits .i64) (af (rd b 0))|||b_ (IntKind.bits .i64) (af ((af (rd b 1))*2^8)))))*(af (gi (b_ (IntKind.bits .i64) (af (rd b 2))|||b_ (IntKind.bits .i64) (af ((af (rd b 3))*2^8)))))))) (0:Int)),0,(gy kE ki (ax 4) 1),(ki-ax 4),a8,n8,H8) [0,0,0,0] ⟨H,(dJ.sub dJ.self gN c8),(nC c8 gN),s8⟩ J J ?_))))))))))
 rintro k9 ⟨x6,x7,x8,dG,n11,a12,n12,dL⟩ ⟨bh,zF,Bd,dS⟩;rw[na.l0] at bh;refine rc T 6 (cd J bh (λbh=>?_) (λbh=>?_))
 ·refine rc T 13 (lf T 2 J (ro T 1 (lf T 2 J (ro T 1 (k [] J Hw bh (sB.c ·) (λv10 bh=>ro T 12 (kr (ql.R el) [] [] J aeu bh (ql.c · (dE hG (j:=0) J) (px zF (rO iH 0) gN) Bd) (λv11 bh=>?_))))))));rintro _ _ ⟨dQ,n13,fe,dF,rfl,rfl⟩;refine fz J (ro T 4 (nc T J (λKg=>sg T 5 J (ro T 11 (cb J bh (λbh=>?_) (λbh=>?_))))))
  ·refine rc T 5 (bz J (iG T J J J J) (ro T 1 (nc T J (λpw=>bC (gM [6,6] J (bz J (iG T J J J J) (sg T 1 J (ro T 10 ?_))))))))
   cases bh;refine bC (pb T J (.c_ (j:=1) [(ii 0),(ii 0),nl] J J J J J J J (.tmp J .nil)) [7,6,0] ⟨(_,_),none,0,[],(.iface 301 (pp pw)),(bo [(cl pw 303 [(ii x8),(.iface 243 (ii v11.2.2))]),[]]),ak.nil,(qL sV),J,J⟩ J J)
  refine rc T 4 (lm T 2 J (ro T 1 (lm T 5 J (kr (pt.R a12 n12 (aa x7)) [] [3] J aev bh (pt.c (m:=(aJ.mk (af (gi (b_ (IntKind.bits .i64) (af (rd b 0))|||b_ (IntKind.bits .i64) (af ((af (rd b 1))*2^8))))) (af (gi (b_ (IntKind.bits .i64) (af (rd b 2))|||b_ (IntKind.bits .i64) (af ((af (rd b 3))*2^8))))) x7)) · dS (oO dF 3) dF.ck) (λv12 bh=>?_)))))
  rintro _ _ ⟨lB,iz,l19,rfl,rfl⟩;refine fz J (kg [0,2,4,9,58,59] [0,0,3] [0,0,3,0] [] [(cl b5 30 [(ii (af (gi (b_ (IntKind.bits .i64) (af (rd b 0))|||b_ (IntKind.bits .i64) (af ((af (rd b 1))*2^8)))))),(ii (af (gi (b_ (IntKind.bits .i64) (af (rd b 2))|||b_ (IntKind.bits .i64) (af ((af (rd b 3))*2^8)))))),(ll a12 v12 n12)])] J J trivial (by first |rfl |(simp only[ll,l19];rfl)) (ro T 5 ?_))
  obtain⟨l9,bh⟩:=aF bh;refine bz J (lb T J J J J J J l9 Bd) (ro T 9 (ar (_,_,_,_,_,_,_,_) [0,0,1,0] ⟨bh,(dJ.sub zF gN l9),(nC l9 Bd),iz⟩ J J))
 refine rc T 13 (cd J bh (λbh=>?_) (λbh=>?_))
 ·refine rc T 3 (bz J (iG T J J J J) (sg T 1 J (ro T 5 ?_)))
  cases bh;refine bC (bC (pb T J (.c_ (j:=1) [(ii 0),(ii 0),nl] J J J J J J J (.tmp J .nil)) [4,4,0] ⟨(_,_),none,0,[],(.iface 243 (ii 3)),[],ak.nil,sV,J,J⟩ J J))
 refine rc T 4 (lm T 2 J (sg T 1 J (ro T 4 ?_)))
 cases bh;refine bC (pb T J (.c_ (j:=1) [(ii (af (gi (b_ (IntKind.bits .i64) (af (rd b 0))|||b_ (IntKind.bits .i64) (af ((af (rd b 1))*2^8)))))),(ii (af (gi (b_ (IntKind.bits .i64) (af (rd b 2))|||b_ (IntKind.bits .i64) (af ((af (rd b 3))*2^8)))))),(ll a12 x7 n12)] J J J J J J J (.tmp J .nil)) [3,3,0] ⟨(_,_),a12,n12,dL,.nilIface,[],dS,vf,J,J⟩ J J)
def vb.f (b:(List Int)):Option (aJ×Int):=(na.f b).bind λv1=>(zM.f v1.2).bind λv2=>if(Option.isSome v2)=true then(some ((aJ.mk 0 0 []),(Option.getD v2 0))) else(some (v1.1,0))
def vb.R (el:Nat->Addr) (r:(aJ×Int)):bm:=λu G=> ∃a0 n0 H0,ak (Fl.int .u8) 5 r.1.C a0 n0 H0/\u=(.tuple #[(.agg #[(ii r.1.W),(ii r.1.H),(ll a0 r.1.C n0)]),(ii r.2)])/\G=[H0]
theorem vb.c (H:vb.f b=some r) (hG:fR 414 fk gZ el F) (iH:aU (Fl.int .u8) b kE F) (gN:aa b<=ki):
 QR 114 [(ll kE b ki)] [] [] F (vb.R el r):=by
 unfold vb.f at H;refine aH Tryz.func114 J J (λW=>rc T 2 (nc T J (λb1=>ro T 6 (kr (na.R el) [] [] J ad_ H (na.c · (dE hG (j:=0) J) (rO iH 0) gN) (λv1 H=>?_)))));rintro _ _ ⟨a2,n2,H2,v3,H3,s2,s3,rfl,rfl⟩;refine fz J (ro T 3 (nc T J (λb4=>sg T 4 J (ro T 6 (nc T J (λb5=>sg T 5 J (ro T 1 (ks [2,4,5,6] J (rx T 4 (bz J (iG T J J J J) ?_))))))))));obtain⟨v2,V2,H⟩:=fY H;refine ba (wm (As:=[(cl b5 243 [(ii 0)])]) (R:=[F,(cl b1 30 [(ii 0),(ii 0),nl]),H2,H3,(cl b4 30 [(ii v1.1.W),(ii v1.1.H),(ll a2 v1.1.C n2)])]) (B:=λ_=>[(cl b5 243 [(ii (Option.getD v2 0))])]) [5] J J J J K8 J J (zM.c v1.2 v2 _ V2 (dE hG (j:=0) J) (sW s3 (j:=3) J)) (λ_=>ro T 2 (cb J H (λH=>?_) (λH=>?_))))
 ·refine rc T 1 (ke [2,6] [0,0,3] J J (fz J (rz [] mix (bU bT) (λhg pf=>ha T 3 [0] sz hg pf J (al T 1 2 sz hg pf J J J (ao 2 (sf T 1 J (an sz (ha T 0 [3] sz hg pf J (ae (rx T 1 (rc T 2 ?_))))))))))))
  cases H;refine bC (pb T J (.c_ (j:=1) [(ii 0),(ii 0),nl] J J J J J J J (.tmp J .nil)) [3,0] ⟨(_,_),none,0,[],ak.nil,J,J⟩ J J)
 refine rc T 4 (lm T 4 J (sg T 1 J (ro T 4 ?_)))
 cases H;exact pb T J (.c_ (j:=1) [(ii v1.1.W),(ii v1.1.H),(ll a2 v1.1.C n2)] J J J J J J J (.tmp J .nil)) [2,0] ⟨(_,_),a2,n2,H2,s2,J,J⟩ J J
def zD.f (m:aJ):Option Bool:=((ph.f m.W m.H).bind λv3=>if v3=true then(if((aa m.C:Int)==(af (m.W*m.H)))=true then((xx.f m.C 0).bind λv4=>some (!v4)) else(some false)) else(some false)).bind λx1=>some x1
theorem zD.c (H:zD.f m=some r) (rL:aU (Fl.int .u8) m.C oy F) (ud:aa m.C<=nX):
 QU 148 [(.agg #[(ii m.W),(ii m.H),(ll oy m.C nX)])] [] F (bb r):=by
 unfold zD.f at H;refine aH Tryz.func148 J J (λW=>rc T 2 (nc T J (λb1=>ro T 3 (mq H [] [0] (λz2 (x1:Bool)=>(x1=z2,[(2,(bb x1))],[])) J J (λz2 Z1 _=>?_) ?_))))
 ·refine rc T 2 (lf T 1 J (ro T 1 (lf T 1 J (k [] J C9 Z1 (ph.c ·) (λv3 Z1=>ro T 1 (ab 8 J Z1 (λZ1=>?_) (λZ1=>?_)))))))
  ·refine ro T 1 (lf T 1 J (ro T 2 (lf T 1 J (ro T 1 (lf T 1 J (ro T 4 (ab 19 J Z1 (λZ1=>?_) (λZ1=>?_))))))))
   ·refine ro T 1 (lf T 1 J (k [] J ON Z1 (xx.c · (rO rL 0) ud) (λv4 Z1=>ro T 5 (am _ [0] (oi Z1) J J))))
   refine ro T 8 (am _ [0] (oi Z1) J J)
  refine ro T 19 (am _ [0] (oi Z1) J J)
 rintro _ x1 rfl H;refine rc T 1 ?_
 cases H;exact p0 T J [0] J
end
noncomputable section
def uk.f (cells:Int):Option (Option fT):=if((decide (cells<1))||(decide (cells>1048576)))=true then(some none) else(if(0<=cells/\cells<=1099511627776) then(some (some (fT.mk (cy (ax cells) (0:Int)) 0))) else none)
def uk.R (r:(Option fT)):bm:=λu G=> ∃(u0:Value) (G0:List Hp),ZI r u0 G0/\u=u0/\G=G0
theorem uk.c (H:uk.f cells=some r):
 QR 153 [(ii cells)] [] [] F (uk.R r):=by
 unfold uk.f at H;refine aH Tryz.func153 J J (λW=>rc T 11 (go T [3,4,5] 5 [0] 8 J J J J J J J (ro T 2 (cb J H (λH=>?_) (λH=>?_)))))
 ·refine rc T 7 ?_
  cases H;exact p1 T J [0] ⟨_,_,⟨J,J⟩,J,J⟩ J
 refine rc T 5 ?_;obtain⟨c2,H⟩:=aF H;refine ba (zB (k:=(Fl.int .u32)) T (0:Int) J J J J J J J J c2 J (λa1 n1 H1 s1=>ro T 1 (nc T J (λb2=>ro T 4 ?_))))
 cases H;exact p1 T J [2,1,0] ⟨_,_,⟨b2,a1,n1,H1,s1,J,J⟩,J,J⟩ J
def zO.f (ai:fT) (cell:Int):Option Bool:=(if cell≥0 then(some (decide (cell<(aa ai.words:Int)))) else(some false)).bind λx1=>some x1
theorem zO.c (H:zO.f ai cell=some r) (mf:ak (Fl.int .u32) 65 ai.words pq pG sJ):
 QU 195 [(pp aY),(ii cell)] [(cl aY 221 [(ll pq ai.words pG),(ii ai.count)]),sJ] F (bb r):=by
 unfold zO.f at H;refine aH Tryz.func195 J J (λW=>rc T 5 (mq H [] [2,0,0] (λz2 (x1:Bool)=>(x1=z2,[(4,(bb x1))],[])) J J (λz2 Z1 _=>?_) ?_))
 ·refine rc T 8 (ad 11 J Z1 (λZ1=>?_) (λZ1=>?_))
  ·refine ro T 4 (lf T 0 J (ro T 6 (am _ [2,0,0] (oi Z1) J J)))
  refine ro T 11 (am _ [2,0,0] (oi Z1) J J)
 rintro _ x1 rfl H;refine rc T 1 ?_
 cases H;exact p0 T J [1,1,0] J
def rK.f (ai:fT) (cell:Int):Option Int:=(zO.f ai cell).bind λv1=>if(!v1)=true then(some (-1)) else(if(0<=cell/\cell<(aa ai.words:Int)) then(some (af ((af (rd ai.words cell))-1))) else none)
theorem rK.c (H:rK.f ai cell=some r) (mf:ak (Fl.int .u32) 65 ai.words pq pG sJ):
 QU 154 [(pp aY),(ii cell)] [(cl aY 221 [(ll pq ai.words pG),(ii ai.count)]),sJ] F (ii r):=by
 unfold rK.f at H;refine aH Tryz.func154 J J (λW=>rc T 10 (k [0,0] J UX H (zO.c · mf) (λv1 H=>ro T 3 (cb J H (λH=>?_) (λH=>?_)))))
 ·refine rc T 7 ?_
  cases H;exact p0 T J [0,0,0] J
 refine rc T 7 (lf T 0 J (ro T 1 ?_));obtain⟨c3,H⟩:=aF H;obtain⟨q3,o3,e3⟩:=mf.r.addr c3.1 c3.2;refine ix T J e3 c3 (le T 0 (oO mf 1) e3 c3 J J (ro T 6 ?_))
 cases H;exact p0 T J [0,0,0] J
def zN.f (ai:fT) (cell:Int):Option Bool:=((zO.f ai cell).bind λv3=>if v3=true then(if(0<=cell/\cell<(aa ai.words:Int)) then(some ((rd ai.words cell)==0)) else none) else(some false)).bind λx1=>some x1
theorem zN.c (H:zN.f ai cell=some r) (mf:ak (Fl.int .u32) 65 ai.words pq pG sJ):
 QU 196 [(pp aY),(ii cell)] [(cl aY 221 [(ll pq ai.words pG),(ii ai.count)]),sJ] F (bb r):=by
 unfold zN.f at H;refine aH Tryz.func196 J J (λW=>rc T 5 (mq H [] [2,0,0] (λz2 (x1:Bool)=>(x1=z2,[(4,(bb x1))],[])) J J (λz2 Z1 _=>?_) ?_))
 ·refine rc T 3 (k [0,0] J UX Z1 (zO.c · mf) (λv3 Z1=>ro T 1 (ab 8 J Z1 (λZ1=>?_) (λZ1=>?_))))
  ·refine ro T 3 (lf T 0 J (ro T 1 ?_));obtain⟨c4,Z1⟩:=aF Z1;obtain⟨q3,o3,e3⟩:=mf.r.addr c4.1 c4.2;refine ix T J e3 c4 (le T 0 (oO mf 1) e3 c4 J J (ro T 5 (am _ [2,0,0] (oi Z1) J J)))
  refine ro T 12 (am _ [2,0,0] (oi Z1) J J)
 rintro _ x1 rfl H;refine rc T 1 ?_
 cases H;exact p0 T J [1,1,0] J
def ui.f (ai:fT) (cell:Int) (p2:Int):Option (Bool×fT):=(zN.f ai cell).bind λv1=>if(((!v1)||(decide (p2<0)))||(decide (p2≥4294967295)))=true then(some (false,ai)) else(if(0<=cell/\cell<(aa ai.words:Int)) then(some (true,(fT.mk (aG ai.words (ax cell) (Js (af (p2+1)))) (af (ai.count+1))))) else none)
def ui.R (aY:Nat) (r:(Bool×fT)):bm:=λu G=> ∃a0 n0 H0,ak (Fl.int .u32) 65 r.2.words a0 n0 H0/\u=(bb r.1)/\G=[(cl aY 221 [(ll a0 r.2.words n0),(ii r.2.count)]),H0]
theorem ui.c (H:ui.f ai cell p2=some r) (mf:ak (Fl.int .u32) 65 ai.words pq pG sJ):
 QR 157 [(pp aY),(ii cell),(ii p2)] [(cl aY 221 [(ll pq ai.words pG),(ii ai.count)]),sJ] [] F (ui.R aY r):=by
 unfold ui.f at H;refine aH Tryz.func157 J J (λW=>rc T 10 (k [0,0] J UY H (zN.c · mf) (λv1 H=>ro T 2 (go T [5,6,7] 11 [0,1,2] 14 J J J J J J J (ro T 1 (go T [9,10,11] 15 [0,1,2] 18 J J J J J J J (ro T 2 (cb J H (λH=>?_) (λH=>?_)))))))))
 ·refine rc T 7 ?_
  cases H;exact p1 T J [0,0,0] ⟨pq,pG,sJ,mf,J,J⟩ J
 refine rc T 7 (lf T 0 J (ro T 4 ?_));obtain⟨c3,H⟩:=aF H;obtain⟨q3,o3,e3⟩:=mf.r.addr c3.1 c3.2;refine ix T J e3 c3 (ba (lD (k:=(Fl.int .u32)) T 1 0 (Js (af (p2+1))) J J J J J J mf e3 c3 J J J (λH4 s4=>kg [0] [1,1] [1,1,0] [] [(cl aY 221 [(ll pq (aG ai.words (ax cell) (Js (af (p2+1)))) pG),(ii ai.count)])] J J trivial dP (ro T 7 (lf T 2 J (ro T 3 (sg T 2 J (ro T 8 ?_))))))))
 cases H;exact p1 T J [2,0,0] ⟨pq,pG,H4,s4,J,J⟩ J
def uj.f (ai:fT) (cell:Int):Option (Int×fT):=(rK.f ai cell).bind λv1=>if(v1 !=(-1))=true then(if(0<=cell/\cell<(aa ai.words:Int)) then(some (v1,(fT.mk (aG ai.words (ax cell) 0) (af (ai.count-1))))) else none) else(some (v1,ai))
def uj.R (aY:Nat) (r:(Int×fT)):bm:=λu G=> ∃a0 n0 H0,ak (Fl.int .u32) 65 r.2.words a0 n0 H0/\u=(ii r.1)/\G=[(cl aY 221 [(ll a0 r.2.words n0),(ii r.2.count)]),H0]
theorem uj.c (H:uj.f ai cell=some r) (mf:ak (Fl.int .u32) 65 ai.words pq pG sJ):
 QR 160 [(pp aY),(ii cell)] [(cl aY 221 [(ll pq ai.words pG),(ii ai.count)]),sJ] [] F (uj.R aY r):=by
 unfold uj.f at H;refine aH Tryz.func160 J J (λW=>rc T 9 (k [0,0] J Hu H (rK.c · mf) (λv1 H=>ro T 10 (cb J H (λH=>?_) (λH=>?_)))))
 ·refine rc T 5 (lf T 0 J (ro T 1 ?_));obtain⟨c3,H⟩:=aF H;obtain⟨q3,o3,e3⟩:=mf.r.addr c3.1 c3.2;refine ix T J e3 c3 (ba (lD (k:=(Fl.int .u32)) T 1 0 0 J J J J J J mf e3 c3 J J J (λH4 s4=>kg [0,5] [1,1] [1,1,0] [] [(cl aY 221 [(ll pq (aG ai.words (ax cell) 0) pG),(ii ai.count)])] J J trivial dP (ro T 6 (lf T 2 J (ro T 3 (sg T 2 J (ro T 9 ?_))))))))
  cases H;exact p1 T J [2,0,0] ⟨pq,pG,H4,s4,J,J⟩ J
 refine rc T 9 ?_
 cases H;exact p1 T J [0,0,0] ⟨pq,pG,sJ,mf,J,J⟩ J
def yd.f (ai:fT) (aj:Int) (p2:Int):Option (Bool×fT):=((rK.f ai aj).bind λv3=>if(v3==(-1))=true then(some true) else((zN.f ai p2).bind λv4=>some (!v4))).bind λx1=>if x1=true then(some (false,ai)) else((uj.f ai aj).bind λv5=>(ui.f v5.2 p2 v5.1).bind λv6=>some (v6.1,v6.2))
def yd.R (aY:Nat) (r:(Bool×fT)):bm:=λu G=> ∃a0 n0 H0,ak (Fl.int .u32) 65 r.2.words a0 n0 H0/\u=(bb r.1)/\G=[(cl aY 221 [(ll a0 r.2.words n0),(ii r.2.count)]),H0]
theorem yd.c (H:yd.f ai aj p2=some r) (mf:ak (Fl.int .u32) 65 ai.words pq pG sJ):
 QR 167 [(pp aY),(ii aj),(ii p2)] [(cl aY 221 [(ll pq ai.words pG),(ii ai.count)]),sJ] [] F (yd.R aY r):=by
 unfold yd.f at H;refine aH Tryz.func167 J J (λW=>rc T 6 (mq H [0,1,2] [2,0,0] (λz2 (x1:Bool)=>(x1=z2,[(16,(bb x1))],[])) J J (λz2 Z1 _=>?_) ?_))
 ·refine rc T 3 (k [0,0] J Hu Z1 (rK.c · mf) (λv3 Z1=>ro T 2 (ab 11 J Z1 (λZ1=>?_) (λZ1=>?_))))
  ·refine ro T 7 (am _ [2,0,0] (oi Z1) J J)
  refine ro T 2 (k [0,0] J UY Z1 (zN.c · mf) (λv4 Z1=>ro T 4 (am _ [2,0,0] (oi Z1) J J)))
 rintro _ x1 rfl H;refine cb J H (λH=>?_) (λH=>?_)
 ·refine rc T 7 ?_
  cases H;exact p1 T J [1,1,0] ⟨pq,pG,sJ,mf,J,J⟩ J
 refine rc T 8 (kr (uj.R aY) [] [1,1] J UO H (uj.c · mf) (λv5 H=>?_));rintro _ _ ⟨a3,n3,H3,s3,rfl,rfl⟩;refine fz J (kr (ui.R aY) [] [1,1] J UM H (ui.c · s3) (λv6 H=>?_));rintro _ _ ⟨a4,n4,H4,s4,rfl,rfl⟩;refine fz J (ro T 4 ?_)
 cases H;exact p1 T J [1,1,0] ⟨a4,n4,H4,s4,J,J⟩ J
end
noncomputable section
def qm.l0:Nat->Int->Int->(List aI)->Int->(List (Int×Bool))->Int->Option Bool
 |0,_,_,_,_,_,_=>none
 |k8+1,w,h,l,x5,x6,x7=>if x7<(aa l:Int) then(if(0<=x7/\x7<(aa l:Int)) then((if(rd l x7).Id<=x5 then(some true) else((gJ.f w h ((rd l x7).Cell)).bind λv11=>if v11<0 then(some true) else((gJ.f w h ((rd l x7).Goal)).bind λv12=>if v12<0 then(some true) else(some (aP x6 ((rd l x7).Cell)))))).bind λx9=>if x9=true then(some false) else(qm.l0 k8 w h l ((rd l x7).Id) (cF x6 ((rd l x7).Cell) true) (af (x7+1)))) else none) else(some true)
def qm.f (w:Int) (h:Int) (l:(List aI)):Option Bool:=(ph.f w h).bind λv1=>if(!v1)=true then(some false) else(qm.l0 fuel w h l (-1) ([]:(List (Int×Bool))) 0)
theorem qm.c (H:qm.f w h l=some r) (dt:aU mc l ig F) (gn:aa l<=g_):
 QU 61 [(ii w),(ii h),(ll ig l g_)] [] F (bb r):=by
 unfold qm.f at H;refine aH Tryz.func61 J J (λW=>rc T 10 (k [] J C9 H (ph.c ·) (λv1 H=>ro T 3 (cb J H (λH=>?_) (λH=>?_)))))
 ·refine rc T 7 ?_
  cases H;exact p0 T J [0] J
 refine rc T 11 (ba (wo T (Ky.int .i64 u3) (λx:Bool=>Value.bool x) J J J ⟨_,_,J⟩ (λa1 H1 s1=>ro T 12 (lq [0,1,18,19] [0] (λ(⟨k8,x5,x6,x7,a3,H3⟩:Nat×Int×(List (Int×Bool))×Int×Nat×Hp)=>(qm.l0 k8 w h l x5 x6 x7=some r/\de (Ky.int .i64 u3) (λx:Bool=>Value.bool x) x6 a3 H3,[(7,(ii x5)),(8,(.map (some a3))),(20,(ii x7))],[H3])) J J (fuel,(-1),([]:(List (Int×Bool))),0,a1,H1) [0,0] ⟨H,s1⟩ J J ?_))));rintro k8 ⟨x5,x6,x7,a3,H3⟩ ⟨Z3,s3⟩;rw[qm.l0] at Z3;refine rc T 6 (cd J Z3 (λZ3=>?_) (λZ3=>?_))
 ·refine rc T 6 ?_;obtain⟨c5,Z3⟩:=aF Z3;obtain⟨q4,o4,e4⟩:=dt.addr c5.1 c5.2;refine ix T J e4 c5 (bz J (gp T (cs:=[(ii (rd l x7).Id),(ii (rd l x7).Cell),(ii (rd l x7).Goal)]) J J J J J J (iI (k:=mc) (rO dt 0) e4 c5 J)) (nc T J (λb5=>sg T 2 J (ro T 3 (mq Z3 [0,1,8,10,18,19,20] [0,0,0] (λmS (x9:Bool)=>(x9=mS,[(49,(bb x9))],[])) J J (λmS Z6 _=>?_) ?_)))))
  ·refine rc T 2 (lf T 2 J (ro T 3 (ad 28 J Z6 (λZ6=>?_) (λZ6=>?_))))
   ·refine ro T 23 (am _ [0,0,0] (oi Z6) J J)
   refine ro T 3 (lf T 2 J (k [] J tf Z6 (gJ.c ·) (λv11 Z6=>ro T 3 (ad 36 J Z6 (λZ6=>?_) (λZ6=>?_)))))
   ·refine ro T 15 (am _ [0,0,0] (oi Z6) J J)
   refine ro T 3 (lf T 2 J (k [] J tf Z6 (gJ.c ·) (λv12 Z6=>ro T 3 (ad 44 J Z6 (λZ6=>?_) (λZ6=>?_)))))
   ·refine ro T 7 (am _ [0,0,0] (oi Z6) J J)
   refine ro T 2 (lf T 2 J (bz J (qN (k:=(rd l x7).Cell) T (Ky.int .i64 u3) (λx:Bool=>Value.bool x) J J J J J (pF s3 (j:=1) J)) (ro T 3 (am _ [0,0,0] (oi Z6) J J))))
  rintro _ x9 rfl Z3;refine cb J Z3 (λZ3=>?_) (λZ3=>?_)
  ·refine rc T 12 ?_
   cases Z3;exact p0 T J [0] J
  refine rc T 2 (fz J (rz [6] mix (bU bT) (λhg pf=>ha T 5 [0,1] sz hg pf J (al T 2 2 sz hg pf J J J (ha T 3 [3] sz hg pf J (al T 4 2 sz hg pf J J J (ha T 1 [5] sz hg pf J (ao 6 (qG (g:=1) (m:=x6) (k:=(rd l x7).Cell) (v:=true) T (Ky.int .i64 u3) (λx:Bool=>Value.bool x) J J J J J J J s3 (λH6 s6=>an sl (ae (rx T 7 (ar (_,_,_,_,_) [0,0] ⟨Z3,s6⟩ J J)))))))))))))
 refine rc T 11 ?_
 cases Z3;exact p0 T J [0] J
def oV.l0:Nat->(List aI)->List Int->(List (Int×Bool))->Int->Option (List Int)
 |0,_,_,_,_=>none
 |k7+1,l,x4,x5,x6=>if x6<(aa l:Int) then(if(0<=x6/\x6<(aa l:Int)) then(if(!(aP x5 ((rd l x6).Goal)))=true then(if(aa x4+1<=1099511627776) then(oV.l0 k7 l (x4++[(rd l x6).Goal]) (cF x5 ((rd l x6).Goal) true) (af (x6+1))) else none) else(oV.l0 k7 l x4 x5 (af (x6+1)))) else none) else(some x4)
def oV.f (l:(List aI)):Option (List Int):=oV.l0 fuel l [] ([]:(List (Int×Bool))) 0
def oV.R (r:(List Int)):bm:=λu G=> ∃a0 n0 H0,ak (Fl.int .i64) 3 r a0 n0 H0/\u=(ll a0 r n0)/\G=[H0]
theorem oV.c (H:oV.f l=some r) (dt:aU mc l ig F) (gn:aa l<=g_):
 QR 29 [(ll ig l g_)] [] [] F (oV.R r):=by
 unfold oV.f at H;refine aH Tryz.func29 J J (λW=>rc T 12 (ba (wo T (Ky.int .i64 u3) (λx:Bool=>Value.bool x) J J J trivial (λa1 H1 s1=>ro T 12 (bC (lq [8,9] [0] (λ(⟨k7,x4,x5,x6,a4,n4,H4,a5,H5⟩:Nat×List Int×(List (Int×Bool))×Int×Option Addr×Nat×Hp×Nat×Hp)=>(oV.l0 k7 l x4 x5 x6=some r/\ak (Fl.int .i64) 3 x4 a4 n4 H4/\de (Ky.int .i64 u3) (λx:Bool=>Value.bool x) x5 a5 H5,[(3,(ll a4 x4 n4)),(4,(.map (some a5))),(10,(ii x6))],[H4,H5])) J J (fuel,[],([]:(List (Int×Bool))),0,none,0,[],a1,H1) [0,1,0] ⟨H,ak.nil,s1⟩ J J ?_))))));rintro k7 ⟨x4,x5,x6,a4,n4,H4,a5,H5⟩ ⟨Z1,s4,s5⟩;rw[oV.l0] at Z1;refine rc T 6 (cd J Z1 (λZ1=>?_) (λZ1=>?_))
 ·refine rc T 6 ?_;obtain⟨c3,Z1⟩:=aF Z1;obtain⟨q6,o6,e6⟩:=dt.addr c3.1 c3.2;refine ix T J e6 c3 (bz J (gp T (cs:=[(ii (rd l x6).Id),(ii (rd l x6).Cell),(ii (rd l x6).Goal)]) J J J J J J (iI (k:=mc) (rO dt 0) e6 c3 J)) (nc T J (λb7=>sg T 3 J (ro T 6 (lf T 3 J (bz J (qN (k:=(rd l x6).Goal) T (Ky.int .i64 u3) (λx:Bool=>Value.bool x) J J J J J (pF s5 (j:=2) J)) (ro T 3 (cb J Z1 (λZ1=>?_) (λZ1=>?_)))))))))
  ·refine rc T 4 (lf T 3 J (ba (qG (g:=2) (m:=x5) (k:=(rd l x6).Goal) (v:=true) T (Ky.int .i64 u3) (λx:Bool=>Value.bool x) J J J J J J J s5 (λH8 s8=>ro T 5 (lf T 3 J (ba (dp (k:=(Fl.int .i64)) T [(rd l x6).Goal] J J J J J J J J J (λa9 H9 s9=>?_))))))));obtain⟨c5,Z1⟩:=aF Z1;refine ba (eP (k:=(Fl.int .i64)) (xs:=x4) T (g:=1) J J J J J J J J J J s4 (oO s9 4) c5 J (λcK n10 cu bX=>ro T 2 (ke [3,4,8,9,10] [0,0,0] J J (rx T 7 (ar (_,_,_,_,_,_,_,_) [0,0,0] ⟨Z1,bX,s8⟩ J J)))))
  refine rc T 8 (ar (_,_,_,_,_,_,_,_) [0,0,0] ⟨Z1,s4,s5⟩ J J)
 refine rc T 12 ?_
 cases Z1;exact p1 T J [1,0] ⟨a4,n4,H4,s4,J,J⟩ J
def kK.l1:Nat->(List Int)->(List (Int×(List cA)))->List Int->List cA->Int->Option (List cA)
 |0,_,_,_,_,_=>none
 |LJ+1,v17,cg,eO,ry,mi=>if mi<(aa v17:Int) then(if(0<=mi/\mi<(aa v17:Int)) then(if(¬(rd v17 mi)∈eO) then(if(aa ry+aa (aP cg (rd v17 mi))<=1099511627776) then(kK.l1 LJ v17 cg ((rd v17 mi)::eO) (ry++(aP cg (rd v17 mi))) (af (mi+1))) else none) else none) else none) else(some ry)
def kK.l0:Nat->Int->Int->(List aI)->(List (Int×(List cA)))->(List ((Int×Int)×Int))->Int->Option (List cA)
 |0,_,_,_,_,_,_=>none
 |k8+1,w,h,l,x5,x6,x7=>if x7<(aa l:Int) then((if(0<=x7/\x7<(aa l:Int)) then((gJ.f w h ((rd l x7).Cell)).bind λv12=>(if(!(bt x6 ((rd l x7).Goal,v12)))=true then(if(aa (aP x5 ((rd l x7).Goal))+1<=1099511627776) then(some ((cF x5 ((rd l x7).Goal) ((aP x5 ((rd l x7).Goal))++[(cA.mk ((rd l x7).Goal) v12 [])])),(cF x6 ((rd l x7).Goal,v12) (aa (aP x5 ((rd l x7).Goal)):Int)),(aa (aP x5 ((rd l x7).Goal)):Int))) else none) else(some (x5,x6,(aP x6 ((rd l x7).Goal,v12))))).bind λ(aT,bd,cE)=>if(0<=cE/\cE<(aa (aP aT ((rd l x7).Goal)):Int)) then(if(aa ((rd (aP aT ((rd l x7).Goal)) cE).dj)+1<=1099511627776) then(some ((ux aT ((rd l x7).Goal) (aG (aP aT ((rd l x7).Goal)) (ax cE) (cA.mk ((rd (aP aT ((rd l x7).Goal)) cE).Goal) ((rd (aP aT ((rd l x7).Goal)) cE).ft) ((rd (aP aT ((rd l x7).Goal)) cE).dj++[(rd l x7).Id])))),bd)) else none) else none) else none).bind λ(x9,aN)=>kK.l0 k8 w h l x9 aN (af (x7+1))) else((oV.f l).bind λv17=>kK.l1 fuel v17 x5 [] [] 0)
def kK.f (w:Int) (h:Int) (l:(List aI)):Option (List cA):=(qm.f w h l).bind λv1=>if(!v1)=true then(some []) else(kK.l0 fuel w h l ([]:(List (Int×(List cA)))) ([]:(List ((Int×Int)×Int))) 0)
def kK.R (r:(List cA)):bm:=λu G=> ∃a0 n0 H0,gT qn 120 r a0 n0 H0/\u=(ll a0 r n0)/\G=[H0]
theorem kK.c (H:kK.f w h l=some r) (dt:aU mc l ig F) (gn:aa l<=g_):
 QR 28 [(ii w),(ii h),(ll ig l g_)] [] [] F (kK.R r):=by
 unfold kK.f at H;refine aH Tryz.func28 J J (λW=>rc T 11 (k [] J Vl H (qm.c · (rO dt 0) gn) (λv1 H=>ro T 3 (cb J H (λH=>?_) (λH=>?_)))))
 ·refine rc T 7 ?_
  cases H;refine bC (p1 T J [1,0] ⟨none,0,[],gT.nil,J,J⟩ J)
 refine rc T 4 (ba (wo T (Ky.int .i64 u3) vt J J J trivial (λa2 H2 s2=>ro T 5 (ba (wo T (Ky.pair T .i64 J J J mg u3) (λx:Int=>Value.int .i64 x) J J J trivial (λa3 H3 s3=>ro T 12 (lq [0,1,2,26,27] [0] (λ(⟨k8,x5,x6,x7,a6,H6,a7,H7⟩:Nat×(List (Int×(List cA)))×(List ((Int×Int)×Int))×Int×Nat×Hp×Nat×Hp)=>(kK.l0 k8 w h l x5 x6 x7=some r/\xN (gT qn 120) (Ky.int .i64 u3) [] x5 a6 H6/\de (Ky.pair T .i64 J J J mg u3) (λx:Int=>Value.int .i64 x) x6 a7 H7,[(7,(.map (some a6))),(8,(.map (some a7))),(28,(ii x7))],[H6,H7])) J J (fuel,([]:(List (Int×(List cA)))),([]:(List ((Int×Int)×Int))),0,a2,H2,a3,H3) [0,0,0] ⟨H,(ahs (S:=(gT qn 120)) s2),s3⟩ J J ?_)))))));rintro k8 ⟨x5,x6,x7,a6,H6,a7,H7⟩ ⟨Z3,s6,s7⟩;rw[kK.l0] at Z3;refine rc T 6 (cd J Z3 (λZ3=>?_) (λZ3=>?_))
 ·refine rc T 2 (mq Z3 [0,1,2,26,27,28] [0] (λmj (⟨x9,aN,a8,H8,a9,H9⟩:(List (Int×(List cA)))×(List ((Int×Int)×Int))×Nat×Hp×Nat×Hp)=>((x9,aN)=mj/\xN (gT qn 120) (Ky.int .i64 u3) [] x9 a8 H8/\de (Ky.pair T .i64 J J J mg u3) (λx:Int=>Value.int .i64 x) aN a9 H9,[(7,(.map (some a8))),(8,(.map (some a9)))],[H8,H9])) J J (λmj Z5 _=>?_) ?_)
  ·refine rc T 3 ?_;obtain⟨c6,Z5⟩:=aF Z5;obtain⟨Mf,L9,qK⟩:=dt.addr c6.1 c6.2;refine ix T J qK c6 (bz J (gp T (cs:=[(ii (rd l x7).Id),(ii (rd l x7).Cell),(ii (rd l x7).Goal)]) J J J J J J (iI (k:=mc) (rO dt 0) qK c6 J)) (nc T J (λj7=>sg T 3 J (ro T 7 (lf T 3 J (k [] J tf Z5 (gJ.c ·) (λv12 Z5=>ro T 6 (lf T 3 J (ro T 1 (bz J (KD T J J J J J J) (nc T J (λlE=>sg T 4 J (ro T 5 (lm T 4 J (bz J (qN (k:=((rd l x7).Goal,v12)) T (Ky.pair T .i64 J J J mg u3) (λx:Int=>Value.int .i64 x) J J J J J (pF s7 (j:=2) J)) (ro T 7 (mq Z5 [0,1,2,10,26,27,28] [0,2] (λJH (⟨aT,bd,cE,dQ,fe,jk,gf⟩:(List (Int×(List cA)))×(List ((Int×Int)×Int))×Int×Nat×Hp×Nat×Hp)=>((aT,bd,cE)=JH/\xN (gT qn 120) (Ky.int .i64 u3) [] aT dQ fe/\de (Ky.pair T .i64 J J J mg u3) (λx:Int=>Value.int .i64 x) bd jk gf,[(7,(.map (some dQ))),(8,(.map (some jk))),(13,(ii cE))],[fe,gf])) J J (λJH Z8 _=>?_) ?_)))))))))))))))))
   ·refine rc T 6 (cb J Z8 (λZ8=>?_) (λZ8=>?_))
    ·refine rc T 4 (lf T 3 J (GO (j:=1) (gT.nil (kd:=qn) (E:=120)) ((rd l x7).Goal) aX J s6 (λkC n15 dT gB eG gw=>bz J (G_ (kx:=(rd l x7).Goal) (v:=(kC,aa (aP x5 ((rd l x7).Goal)),n15)) T (Ky.int .i64 u3) J J J J J (Ij (j:=1) J gw)) (ro T 3 (aa8 (j:=1) (q:=5) J gw J J eG J (λeZ fO=>ke [0,1,2,7,8,10,11,12,13,26,27,28] [0,0,0,0,0] J J (rx T 4 (lm T 4 J (ro T 1 (ba (qG (g:=2) (m:=x6) (k:=((rd l x7).Goal,v12)) (v:=(aa (aP x5 ((rd l x7).Goal)):Int)) T (Ky.pair T .i64 J J J mg u3) (λx:Int=>Value.int .i64 x) J J J J J J J s7 (λfE fP=>ro T 2 (ke [0,1,2,7,8,10,11,13,26,27,28] [0,0,0,0] J J (fz J (rg [13] [0,1,1] mix (bU bT) (λhg pf=>ha T 12 [0,1] (so [0,1,1]) hg pf J (al T 2 2 (so [0,1,1]) hg pf J J J (ha T 9 [3,4] (so [0,1,1]) hg pf J (al T 5 2 (so [0,1,1]) hg pf J J J (ha T 7 [7] (so [0,1,1]) hg pf J (al T 8 2 (so [0,1,1]) hg pf J J J (ha T 4 [9,10] (so [0,1,1]) hg pf J (gV 6 11 ?_ ?_)))))))))))))))))))))))
     ·refine GO (j:=1) (gT.nil (kd:=qn) (E:=120)) ((rd l x7).Goal) aX J fO (λmY n19 lB pk iz mJ=>l8 J (G_ (kx:=(rd l x7).Goal) (v:=(mY,aa (aP x5 ((rd l x7).Goal)),n19)) T (Ky.int .i64 u3) J J J J J (Ij (j:=1) J mJ)) (an (so [0,1,1]) (ao 11 (bC (gM [5] J (GN (kd:=qn) (E:=120) (q:=5) (c:=[(ii (rd l x7).Goal),(ii v12),nl]) T (cA.mk ((rd l x7).Goal) v12 []) J J J J J J J J J J ⟨none,0,[],(ak.nil (k:=(Fl.int .i64)) (E:=3)),J,J⟩ (λa23 j5 iA=>an (so [0,1,1]) (ao 12 ?_))))))));obtain⟨iX,Z8⟩:=aF Z8;refine GM (kd:=qn) (xs:=(aP x5 ((rd l x7).Goal))) (ys:=[(cA.mk ((rd l x7).Goal) v12 [])]) T (g:=4) (q:=6) J J J J J J J J J J iz J J iA iX J (λa24 n24 sF mL=>an (so [0,1,1]) (ao 13 (Sd (q:=4) (kx:=(rd l x7).Goal) (ys:=((aP x5 ((rd l x7).Goal))++[(cA.mk ((rd l x7).Goal) v12 [])])) T (Ky.int .i64 u3) 1 J J J J J J J mJ J J mL (λiD jW=>an sl (ae (rx T 1 (am (_,_,_,_,_,_,_) [0,2,0,0] ⟨oi Z8,jW,fP⟩ J J)))))))
     refine bC (gM [4] J (GN (kd:=qn) (E:=120) (q:=4) (c:=[(ii (rd l x7).Goal),(ii v12),nl]) T (cA.mk ((rd l x7).Goal) v12 []) J J J J J J J J J J ⟨none,0,[],(ak.nil (k:=(Fl.int .i64)) (E:=3)),J,J⟩ (λa28 vS kL=>an (so [0,1,1]) (ao 6 (GO (j:=1) (gT.nil (kd:=qn) (E:=120)) ((rd l x7).Goal) aX J fO (λzy n29 sG sH sb qo=>l8 J (G_ (kx:=(rd l x7).Goal) (v:=(zy,aa (aP x5 ((rd l x7).Goal)),n29)) T (Ky.int .i64 u3) J J J J J (Ij (j:=1) J qo)) (an (so [0,1,1]) (ao 12 ?_))))))));obtain⟨eQ,Z8⟩:=aF Z8;refine GM (kd:=qn) (xs:=(aP x5 ((rd l x7).Goal))) (ys:=[(cA.mk ((rd l x7).Goal) v12 [])]) T (g:=6) (q:=5) J J J J J J J J J J sb J J kL eQ J (λa31 n31 Cr AD=>an (so [0,1,1]) (ao 13 (Sd (q:=6) (kx:=(rd l x7).Goal) (ys:=((aP x5 ((rd l x7).Goal))++[(cA.mk ((rd l x7).Goal) v12 [])])) T (Ky.int .i64 u3) 1 J J J J J J J qo J J AD (λJM AE=>an sl (ae (rx T 1 (am (_,_,_,_,_,_,_) [0,2,0,0] ⟨oi Z8,AE,fP⟩ J J)))))))
    refine rc T 2 (am (_,_,_,_,_,_,_) [0,2,0,0] ⟨oi Z8,s6,s7⟩ J J)
   rintro _ ⟨aT,bd,cE,dQ,fe,jk,gf⟩ ⟨rfl,dF,gQ⟩ Z5;refine rc T 4 (lf T 1 J (GO (j:=2) (gT.nil (kd:=qn) (E:=120)) ((rd l x7).Goal) aX J dF (λa33 n33 JN vT xn yV=>bz J (G_ (kx:=(rd l x7).Goal) (v:=(a33,aa (aP aT ((rd l x7).Goal)),n33)) T (Ky.int .i64 u3) J J J J J (Ij (j:=2) J yV)) (ro T 1 ?_))));obtain⟨iF,Z5⟩:=aF Z5;obtain⟨q35,o35,N0⟩:=xn.r.addr iF.1 iF.2;refine ix T J N0 iF (ro T 3 (Nq (j:=4) J xn iF (λ_ _ Gh o37 D9=>?_)));obtain⟨A',n36,A3,D8,rfl,rfl⟩:=o37;refine Nt (ks [0,1,2,7,8,10,15,26,27,28] J (fz J (rg [8,11] [0,0,0,0,0,0] mix (bU bT) (λhg pf=>ha T 8 [0,1,2,3] sz hg pf J (av 4 sz hg pf J (cS T J J J J (Ds (j:=4) J (wg.cells D9) N0 2 J)) (ha T 6 [5] sz hg pf J (al T 6 1 sz hg pf J J J (ao 7 (dp (k:=(Fl.int .i64)) T [(rd l x7).Id] J J J J J J J J J (λJ2 A4 BR=>an (so [0,0,0,0,0,0]) (ao 8 ?_)))))))))));obtain⟨jC,Z5⟩:=aF Z5;refine eP (k:=(Fl.int .i64)) (xs:=(rd (aP aT ((rd l x7).Goal)) cE).dj) T (g:=5) J J J J J J J J J J D8 (oO BR 6) jC J (λa39 n39 MV BS=>an sl (hb T 9 sl hg pf J (hb T 10 sl hg pf J (ao 11 (Nr T 4 2 [(ii (rd (aP aT ((rd l x7).Goal)) cE).Goal),(ii (rd (aP aT ((rd l x7).Goal)) cE).ft),(ll a39 ((rd (aP aT ((rd l x7).Goal)) cE).dj++[(rd l x7).Id]) n39)] J J J J J J D9 N0 J J J J (λMW FP=>an sl (ae (gM [5] J (Np (j:=4) (q:=6) (cA.mk ((rd (aP aT ((rd l x7).Goal)) cE).Goal) ((rd (aP aT ((rd l x7).Goal)) cE).ft) ((rd (aP aT ((rd l x7).Goal)) cE).dj++[(rd l x7).Id])) J FP J J ⟨a39,n39,MV,BS,J,J⟩ (λgR uH=>Se (j:=2) (q:=4) (aG (aP aT ((rd l x7).Goal)) (ax cE) (cA.mk ((rd (aP aT ((rd l x7).Goal)) cE).Goal) ((rd (aP aT ((rd l x7).Goal)) cE).ft) ((rd (aP aT ((rd l x7).Goal)) cE).dj++[(rd l x7).Id]))) J yV J J uH (by simp only[mo]) (λGi AF=>rx T 2 (am (_,_,_,_,_,_) [0,1,1] ⟨oi Z5,AF,gQ⟩ J J))))))))))))
  rintro _ ⟨x9,aN,a8,H8,a9,H9⟩ ⟨rfl,s8,s9⟩ Z3;refine rc T 5 (ar (_,_,_,_,_,_,_) [0,0,0] ⟨Z3,s8,s9⟩ J J)
 refine rc T 14 (kr oV.R [] [] J afk Z3 (oV.c · (rO dt 0) gn) (λv17 Z3=>?_));rintro _ _ ⟨a44,n44,Zu,D_,rfl,rfl⟩;refine fz J (ro T 5 (bC (lq [89,90] [0,2] (λ(⟨LJ,cg,eO,ry,mi,J4,Gj,Gv,n48,Gk⟩:Nat×(List (Int×(List cA)))×List Int×List cA×Int×Nat×Hp×Option Addr×Nat×Hp)=>(kK.l1 LJ v17 cg eO ry mi=some r/\xN (gT qn 120) (Ky.int .i64 u3) eO cg J4 Gj/\gT qn 120 ry Gv n48 Gk,[(7,(.map (some J4))),(16,(ll Gv ry n48)),(91,(ii mi))],[Gj,Gk])) J J (fuel,x5,[],[],0,a6,H6,none,0,[]) [0,2,0,1] ⟨Z3,s6,gT.nil⟩ J J ?_)));rintro LJ ⟨cg,eO,ry,mi,J4,Gj,Gv,n48,Gk⟩ ⟨dD,I9,Mk⟩;rw[kK.l1] at dD;refine rc T 6 (cd J dD (λdD=>?_) (λdD=>?_))
 ·refine rc T 6 ?_;obtain⟨l9,dD⟩:=aF dD;obtain⟨q49,o49,Tj⟩:=D_.r.addr l9.1 l9.2;refine ix T J Tj l9 (le T 0 (oO D_ 1) Tj l9 J J (ro T 7 ?_));obtain⟨l_,dD⟩:=aF dD;refine GO (j:=2) (gT.nil (kd:=qn) (E:=120)) (rd v17 mi) l_ J I9 (λa50 n50 Zx Zy QS Ml=>bz J (G_ (kx:=(rd v17 mi)) (v:=(a50,aa (aP cg (rd v17 mi)),n50)) T (Ky.int .i64 u3) J J J J J (Ij (j:=2) J Ml)) ?_);obtain⟨Be,dD⟩:=aF dD;refine ba (GM (kd:=qn) (xs:=ry) (ys:=(aP cg (rd v17 mi))) T (g:=3) (q:=4) J J J J J J J J J J Mk J J QS Be J (λM6 n52 MX FQ=>ro T 2 (aa9 (j:=2) J Ml (λZz QT=>rx T 7 (ar (_,_,_,_,_,_,_,_,_) [0,0,0,0] ⟨dD,QT,FQ⟩ J J)))))
 refine rc T 12 ?_
 cases dD;exact p1 T J [3,0] ⟨Gv,n48,Gk,Mk,J,J⟩ J
end
noncomputable section
def Fw.f (dir:Int):Option Bool:=some ((decide (dir<0))||(decide (dir>5)))
theorem Fw.c (H:Fw.f dir=some r):
 QU 197 [(ii dir)] [] F (bb r):=by
 unfold Fw.f at H;refine aH Tryz.func197 J J (λW=>rc T 10 (go T [3,4,5] 5 [] 8 J J J J J J J (ro T 4 ?_)))
 cases H;exact p0 T J [0] J
def ss.l0:Nat->(List Int)->Int->Option Int
 |0,_,_=>none
 |k3+1,s,x2=>if x2<(aa s:Int) then(if(0<=x2/\x2<(aa s:Int)) then((Fw.f (rd s x2)).bind λv4=>if v4=true then(some x2) else(ss.l0 k3 s (af (x2+1)))) else none) else(some (-1))
def ss.f (s:(List Int)):Option Int:=ss.l0 fuel s 0
theorem ss.c (H:ss.f s=some r) (jQ:aU (Fl.int .i64) s jl F) (sQ:aa s<=jt):
 QU 232 [(ll jl s jt),(.func (.func 197) #[] #[])] [] F (ii r):=by
 unfold ss.f at H;refine aH Tryz.func232 J J (λW=>rc T 14 (lq [0,1,7] [0] (λ(⟨k3,x2⟩:Nat×Int)=>(ss.l0 k3 s x2=some r,[(8,(ii x2))],[])) J J (fuel,0) [0] H J J ?_));rintro k3 x2 Z1;replace Z1:ss.l0 (k3+1) s x2=some r:=Z1;rw[ss.l0] at Z1;refine rc T 6 (cd J Z1 (λZ1=>?_) (λZ1=>?_))
 ·refine rc T 15 ?_;obtain⟨c3,Z1⟩:=aF Z1;obtain⟨q1,o1,e1⟩:=jQ.addr c3.1 c3.2;refine ix T J e1 c3 (le T 0 (rO jQ 0) e1 c3 J J (k [] J aew Z1 (Fw.c ·) (λv4 Z1=>ro T 2 (cb J Z1 (λZ1=>?_) (λZ1=>?_)))))
  ·refine rc T 12 ?_
   cases Z1;exact p0 T J [0] J
  refine rc T 8 (ar _ [0] Z1 J J)
 refine rc T 11 ?_
 cases Z1;exact p0 T J [0] J
def Ei.f (s:(List Int)):Option Bool:=(ss.f s).bind λv1=>some (decide (v1≥0))
theorem Ei.c (H:Ei.f s=some r) (jQ:aU (Fl.int .i64) s jl F) (sQ:aa s<=jt):
 QU 198 [(ll jl s jt),(.func (.func 197) #[] #[])] [] F (bb r):=by
 unfold Ei.f at H;refine aH Tryz.func198 J J (λW=>rc T 9 (k [] J aeS H (ss.c · (rO jQ 0) sQ) (λv1 H=>ro T 5 ?_)))
 cases H;exact p0 T J [0] J
def wX.f (ai:nn) (u:aI) (dir:Int):Option (Bool×nn×aI):=if(dir==0)=true then((mP.f ai.w ai.h u.Cell dir).bind λv1=>(if v1<0 then(some true) else(some (aP ai.ky v1))).bind λx2=>if x2=true then(some (true,ai,u)) else(if(aa ai.lj+1<=1099511627776) then(if(v1==u.Goal)=true then(if(aa ai.gone+1<=1099511627776) then(some (false,(nn.mk ai.w ai.h (eF ai.ky u.Cell) (ai.lj++[(fw.mk u.Id v1)]) (ai.gone++[u.Id])),(aI.mk u.Id v1 u.Goal))) else none) else(some (true,(nn.mk ai.w ai.h (cF (eF ai.ky u.Cell) v1 true) (ai.lj++[(fw.mk u.Id v1)]) ai.gone),(aI.mk u.Id v1 u.Goal)))) else none)) else(if(dir==1)=true then((mP.f ai.w ai.h u.Cell dir).bind λv4=>(if v4<0 then(some true) else(some (aP ai.ky v4))).bind λx5=>if x5=true then(some (true,ai,u)) else(if(aa ai.lj+1<=1099511627776) then(if(v4==u.Goal)=true then(if(aa ai.gone+1<=1099511627776) then(some (false,(nn.mk ai.w ai.h (eF ai.ky u.Cell) (ai.lj++[(fw.mk u.Id v4)]) (ai.gone++[u.Id])),(aI.mk u.Id v4 u.Goal))) else none) else(some (true,(nn.mk ai.w ai.h (cF (eF ai.ky u.Cell) v4 true) (ai.lj++[(fw.mk u.Id v4)]) ai.gone),(aI.mk u.Id v4 u.Goal)))) else none)) else(if(dir==2)=true then((mP.f ai.w ai.h u.Cell dir).bind λv7=>(if v7<0 then(some true) else(some (aP ai.ky v7))).bind λx8=>if x8=true then(some (true,ai,u)) else(if(aa ai.lj+1<=1099511627776) then(if(v7==u.Goal)=true then(if(aa ai.gone+1<=1099511627776) then(some (false,(nn.mk ai.w ai.h (eF ai.ky u.Cell) (ai.lj++[(fw.mk u.Id v7)]) (ai.gone++[u.Id])),(aI.mk u.Id v7 u.Goal))) else none) else(some (true,(nn.mk ai.w ai.h (cF (eF ai.ky u.Cell) v7 true) (ai.lj++[(fw.mk u.Id v7)]) ai.gone),(aI.mk u.Id v7 u.Goal)))) else none)) else(if(dir==3)=true then((mP.f ai.w ai.h u.Cell dir).bind λv10=>(if v10<0 then(some true) else(some (aP ai.ky v10))).bind λbj=>if bj=true then(some (true,ai,u)) else(if(aa ai.lj+1<=1099511627776) then(if(v10==u.Goal)=true then(if(aa ai.gone+1<=1099511627776) then(some (false,(nn.mk ai.w ai.h (eF ai.ky u.Cell) (ai.lj++[(fw.mk u.Id v10)]) (ai.gone++[u.Id])),(aI.mk u.Id v10 u.Goal))) else none) else(some (true,(nn.mk ai.w ai.h (cF (eF ai.ky u.Cell) v10 true) (ai.lj++[(fw.mk u.Id v10)]) ai.gone),(aI.mk u.Id v10 u.Goal)))) else none)) else(some (true,ai,u)))))
def wX.R (aY:Nat) (ff:Nat) (r:(Bool×nn×aI)):bm:=λu G=> ∃(a0:Nat) (H0:Hp) (a1 n1 H1:_) (a2 n2 H2:_),de (Ky.int .i64 u3) (λx:Bool=>Value.bool x) r.2.1.ky a0 H0/\ak jT 94 r.2.1.lj a1 n1 H1/\ak (Fl.int .i64) 3 r.2.1.gone a2 n2 H2/\u=(bb r.1)/\G=[(cl aY 309 [(ii r.2.1.w),(ii r.2.1.h),(.map (some a0)),(ll a1 r.2.1.lj n1),(ll a2 r.2.1.gone n2)]),H0,H1,H2,(cl ff 67 [(ii r.2.2.Id),(ii r.2.2.Cell),(ii r.2.2.Goal)])]
theorem wX.c (H:wX.f ai u dir=some r) (uM:de (Ky.int .i64 u3) (λx:Bool=>Value.bool x) ai.ky sO EA) (AJ:ak jT 94 ai.lj EH FB Ez) (uL:ak (Fl.int .i64) 3 ai.gone xR yG xL):
 QR 199 [(pp aY),(pp ff),(ii dir)] [(cl aY 309 [(ii ai.w),(ii ai.h),(.map (some sO)),(ll EH ai.lj FB),(ll xR ai.gone yG)]),EA,Ez,xL,(cl ff 67 [(ii u.Id),(ii u.Cell),(ii u.Goal)])] [] F (wX.R aY ff r):=by
 unfold wX.f at H;refine aH Tryz.func199 J J (λW=>rc T 25 (cb J H (λH=>?_) (λH=>?_)))
 ·refine rc T 10 (dy mix aA (au T J (au T J (au T J (cB T 0 J J J (au T J (au T J (au T J (cB T 0 J J J (au T J (au T J (au T J (cB T 4 J J J (au T J ?_))))))))))))));obtain⟨v1,V2,H⟩:=fY H;refine sP J J J J J J Bq J (mP.c V2) (au T J (cU (rx T 2 (mq H [0,1,7] [5,0,0,0,0,0] (λz3 (x2:Bool)=>(x2=z3,[(40,(bb x2))],[])) J J (λz3 Z3 _=>?_) ?_))))
  ·refine rc T 4 (ad 33 J Z3 (λZ3=>?_) (λZ3=>?_))
   ·refine ro T 9 (am _ [5,0,0,0,0,0] (oi Z3) J J)
   refine ro T 3 (lf T 0 J (ro T 1 (bz J (qN (k:=v1) T (Ky.int .i64 u3) (λx:Bool=>Value.bool x) J J J J J (pF uM (j:=1) J)) (ro T 3 (am _ [5,0,0,0,0,0] (oi Z3) J J)))))
  rintro _ x2 rfl H;refine cb J H (λH=>?_) (λH=>?_)
  ·refine rc T 10 ?_
   cases H;exact p1 T J [1,1,1,1,1,0] ⟨sO,EA,EH,FB,Ez,xR,yG,xL,uM,AJ,uL,J,J⟩ J
  refine rc T 3 (fz J (rz [8] mix (bU bT) (λhg pf=>ha T 6 [0,1,2] sz hg pf J (al T 3 1 sz hg pf J J J (ha T 2 [4,5,6] sz hg pf J (al T 7 5 sz hg pf J J J (ao 8 (EK (g:=2) (m:=ai.ky) (k:=u.Cell) T (Ky.int .i64 u3) (λx:Bool=>Value.bool x) J J J J J J J J uM (λH6 s6=>an sl (ae (rx T 7 (sg T 5 J (ro T 3 (ks [0,1,7] J (fz J (rg [12,15] [0,0,0,0,0,0] mix (bU bT) (λhg pf=>ha T 12 [0,1,2,3] sz hg pf J (al T 4 1 sz hg pf J J J (ha T 8 [5,6,7] sz hg pf J (al T 8 5 sz hg pf J J J (ha T 5 [9,10] sz hg pf J (ao 11 (dp (k:=jT) T [(fw.mk u.Id v1)] J J J J J J J J J (λa7 H7 s7=>an (so [0,0,0,0,0,0]) (ao 12 ?_)))))))))))))))))))))))));obtain⟨c6,H⟩:=aF H;refine eP (k:=jT) (xs:=ai.lj) T (g:=3) J J J J J J J J J J AJ (oO s7 6) c6 J (λa8 n8 H8 s8=>an sl (hb T 13 sl hg pf J (hb T 14 sl hg pf J (ao 15 (sf T 1 J (an sl (ae (rx T 1 (rc T 7 (lf T 5 J (ro T 3 (cb J H (λH=>?_) (λH=>?_)))))))))))))
  ·refine rc T 1 (ke [0,1] [0,0,0,0,0,0] J J (fz J (rg [10,13] [0,0,0,0,0,0] mix (bU bT) (λhg pf=>ha T 10 [0,1,2,3] sz hg pf J (al T 4 1 sz hg pf J J J (ha T 6 [5,6,7] sz hg pf J (al T 8 5 sz hg pf J J J (ao 9 (dp (k:=(Fl.int .i64)) T [u.Id] J J J J J J J J J (λa9 H9 s9=>an (so [0,0,0,0,0,0]) (ao 10 ?_)))))))))));obtain⟨c8,H⟩:=aF H;refine eP (k:=(Fl.int .i64)) (xs:=ai.gone) T (g:=4) J J J J J J J J J J uL (oO s9 6) c8 J (λcK n10 cu bX=>an sl (hb T 11 sl hg pf J (hb T 12 sl hg pf J (ao 13 (sf T 1 J (an sl (ae (rx T 1 (rc T 10 ?_)))))))))
   cases H;exact p1 T J [1,1,1,1,1,0] ⟨sO,H6,a8,n8,H8,cK,n10,cu,s6,s8,bX,J,J⟩ J
  refine rc T 6 (lf T 1 J (ro T 1 (ba (qG (g:=2) (m:=(eF ai.ky u.Cell)) (k:=v1) (v:=true) T (Ky.int .i64 u3) (λx:Bool=>Value.bool x) J J J J J J J s6 (λcM dr=>ro T 11 ?_)))))
  cases H;exact p1 T J [1,1,1,1,1,0] ⟨sO,cM,a8,n8,H8,xR,yG,xL,dr,s8,uL,J,J⟩ J
 refine rc T 9 (cb J H (λH=>?_) (λH=>?_))
 ·refine rc T 10 (dy mix aA (au T J (au T J (au T J (cB T 0 J J J (au T J (au T J (au T J (cB T 0 J J J (au T J (au T J (au T J (cB T 4 J J J (au T J ?_))))))))))))));obtain⟨v4,M1,H⟩:=fY H;refine sP J J J J J J Bq J (mP.c M1) (au T J (cU (rx T 2 (mq H [0,1,7] [5,0,0,0,0,0] (λz6 (x5:Bool)=>(x5=z6,[(40,(bb x5))],[])) J J (λz6 bh _=>?_) ?_))))
  ·refine rc T 4 (ad 33 J bh (λbh=>?_) (λbh=>?_))
   ·refine ro T 9 (am _ [5,0,0,0,0,0] (oi bh) J J)
   refine ro T 3 (lf T 0 J (ro T 1 (bz J (qN (k:=v4) T (Ky.int .i64 u3) (λx:Bool=>Value.bool x) J J J J J (pF uM (j:=1) J)) (ro T 3 (am _ [5,0,0,0,0,0] (oi bh) J J)))))
  rintro _ x5 rfl H;refine cb J H (λH=>?_) (λH=>?_)
  ·refine rc T 10 ?_
   cases H;exact p1 T J [1,1,1,1,1,0] ⟨sO,EA,EH,FB,Ez,xR,yG,xL,uM,AJ,uL,J,J⟩ J
  refine rc T 3 (fz J (rz [8] mix (bU bT) (λhg pf=>ha T 6 [0,1,2] sz hg pf J (al T 3 1 sz hg pf J J J (ha T 2 [4,5,6] sz hg pf J (al T 7 5 sz hg pf J J J (ao 8 (EK (g:=2) (m:=ai.ky) (k:=u.Cell) T (Ky.int .i64 u3) (λx:Bool=>Value.bool x) J J J J J J J J uM (λdL dS=>an sl (ae (rx T 7 (sg T 5 J (ro T 3 (ks [0,1,7] J (fz J (rg [12,15] [0,0,0,0,0,0] mix (bU bT) (λhg pf=>ha T 12 [0,1,2,3] sz hg pf J (al T 4 1 sz hg pf J J J (ha T 8 [5,6,7] sz hg pf J (al T 8 5 sz hg pf J J J (ha T 5 [9,10] sz hg pf J (ao 11 (dp (k:=jT) T [(fw.mk u.Id v4)] J J J J J J J J J (λdQ fe dF=>an (so [0,0,0,0,0,0]) (ao 12 ?_)))))))))))))))))))))))));obtain⟨mv,H⟩:=aF H;refine eP (k:=jT) (xs:=ai.lj) T (g:=3) J J J J J J J J J J AJ (oO dF 6) mv J (λjk n14 gf gQ=>an sl (hb T 13 sl hg pf J (hb T 14 sl hg pf J (ao 15 (sf T 1 J (an sl (ae (rx T 1 (rc T 7 (lf T 5 J (ro T 3 (cb J H (λH=>?_) (λH=>?_)))))))))))))
  ·refine rc T 1 (ke [0,1] [0,0,0,0,0,0] J J (fz J (rg [10,13] [0,0,0,0,0,0] mix (bU bT) (λhg pf=>ha T 10 [0,1,2,3] sz hg pf J (al T 4 1 sz hg pf J J J (ha T 6 [5,6,7] sz hg pf J (al T 8 5 sz hg pf J J J (ao 9 (dp (k:=(Fl.int .i64)) T [u.Id] J J J J J J J J J (λkC dT eG=>an (so [0,0,0,0,0,0]) (ao 10 ?_)))))))))));obtain⟨mw,H⟩:=aF H;refine eP (k:=(Fl.int .i64)) (xs:=ai.gone) T (g:=4) J J J J J J J J J J uL (oO eG 6) mw J (λkD n16 gB gw=>an sl (hb T 11 sl hg pf J (hb T 12 sl hg pf J (ao 13 (sf T 1 J (an sl (ae (rx T 1 (rc T 10 ?_)))))))))
   cases H;exact p1 T J [1,1,1,1,1,0] ⟨sO,dL,jk,n14,gf,kD,n16,gB,dS,gQ,gw,J,J⟩ J
  refine rc T 6 (lf T 1 J (ro T 1 (ba (qG (g:=2) (m:=(eF ai.ky u.Cell)) (k:=v4) (v:=true) T (Ky.int .i64 u3) (λx:Bool=>Value.bool x) J J J J J J J dS (λeZ fO=>ro T 11 ?_)))))
  cases H;exact p1 T J [1,1,1,1,1,0] ⟨sO,eZ,jk,n14,gf,xR,yG,xL,fO,gQ,uL,J,J⟩ J
 refine rc T 9 (cb J H (λH=>?_) (λH=>?_))
 ·refine rc T 10 (dy mix aA (au T J (au T J (au T J (cB T 0 J J J (au T J (au T J (au T J (cB T 0 J J J (au T J (au T J (au T J (cB T 4 J J J (au T J ?_))))))))))))));obtain⟨v7,RL,H⟩:=fY H;refine sP J J J J J J Bq J (mP.c RL) (au T J (cU (rx T 2 (mq H [0,1,7] [5,0,0,0,0,0] (λz9 (x8:Bool)=>(x8=z9,[(40,(bb x8))],[])) J J (λz9 fv _=>?_) ?_))))
  ·refine rc T 4 (ad 33 J fv (λfv=>?_) (λfv=>?_))
   ·refine ro T 9 (am _ [5,0,0,0,0,0] (oi fv) J J)
   refine ro T 3 (lf T 0 J (ro T 1 (bz J (qN (k:=v7) T (Ky.int .i64 u3) (λx:Bool=>Value.bool x) J J J J J (pF uM (j:=1) J)) (ro T 3 (am _ [5,0,0,0,0,0] (oi fv) J J)))))
  rintro _ x8 rfl H;refine cb J H (λH=>?_) (λH=>?_)
  ·refine rc T 10 ?_
   cases H;exact p1 T J [1,1,1,1,1,0] ⟨sO,EA,EH,FB,Ez,xR,yG,xL,uM,AJ,uL,J,J⟩ J
  refine rc T 3 (fz J (rz [8] mix (bU bT) (λhg pf=>ha T 6 [0,1,2] sz hg pf J (al T 3 1 sz hg pf J J J (ha T 2 [4,5,6] sz hg pf J (al T 7 5 sz hg pf J J J (ao 8 (EK (g:=2) (m:=ai.ky) (k:=u.Cell) T (Ky.int .i64 u3) (λx:Bool=>Value.bool x) J J J J J J J J uM (λfE fP=>an sl (ae (rx T 7 (sg T 5 J (ro T 3 (ks [0,1,7] J (fz J (rg [12,15] [0,0,0,0,0,0] mix (bU bT) (λhg pf=>ha T 12 [0,1,2,3] sz hg pf J (al T 4 1 sz hg pf J J J (ha T 8 [5,6,7] sz hg pf J (al T 8 5 sz hg pf J J J (ha T 5 [9,10] sz hg pf J (ao 11 (dp (k:=jT) T [(fw.mk u.Id v7)] J J J J J J J J J (λmY lB iz=>an (so [0,0,0,0,0,0]) (ao 12 ?_)))))))))))))))))))))))));obtain⟨Bf,H⟩:=aF H;refine eP (k:=jT) (xs:=ai.lj) T (g:=3) J J J J J J J J J J AJ (oO iz 6) Bf J (λa20 n20 pk mJ=>an sl (hb T 13 sl hg pf J (hb T 14 sl hg pf J (ao 15 (sf T 1 J (an sl (ae (rx T 1 (rc T 7 (lf T 5 J (ro T 3 (cb J H (λH=>?_) (λH=>?_)))))))))))))
  ·refine rc T 1 (ke [0,1] [0,0,0,0,0,0] J J (fz J (rg [10,13] [0,0,0,0,0,0] mix (bU bT) (λhg pf=>ha T 10 [0,1,2,3] sz hg pf J (al T 4 1 sz hg pf J J J (ha T 6 [5,6,7] sz hg pf J (al T 8 5 sz hg pf J J J (ao 9 (dp (k:=(Fl.int .i64)) T [u.Id] J J J J J J J J J (λa21 lY kt=>an (so [0,0,0,0,0,0]) (ao 10 ?_)))))))))));obtain⟨ND,H⟩:=aF H;refine eP (k:=(Fl.int .i64)) (xs:=ai.gone) T (g:=4) J J J J J J J J J J uL (oO kt 6) ND J (λa22 n22 nI jd=>an sl (hb T 11 sl hg pf J (hb T 12 sl hg pf J (ao 13 (sf T 1 J (an sl (ae (rx T 1 (rc T 10 ?_)))))))))
   cases H;exact p1 T J [1,1,1,1,1,0] ⟨sO,fE,a20,n20,pk,a22,n22,nI,fP,mJ,jd,J,J⟩ J
  refine rc T 6 (lf T 1 J (ro T 1 (ba (qG (g:=2) (m:=(eF ai.ky u.Cell)) (k:=v7) (v:=true) T (Ky.int .i64 u3) (λx:Bool=>Value.bool x) J J J J J J J fP (λj5 iA=>ro T 11 ?_)))))
  cases H;exact p1 T J [1,1,1,1,1,0] ⟨sO,j5,a20,n20,pk,xR,yG,xL,iA,mJ,uL,J,J⟩ J
 refine rc T 8 (cb J H (λH=>?_) (λH=>?_))
 ·refine rc T 9 (dy mix aA (au T J (au T J (au T J (cB T 0 J J J (au T J (au T J (au T J (cB T 0 J J J (au T J (au T J (au T J (cB T 4 J J J (au T J ?_))))))))))))));obtain⟨v10,V26,H⟩:=fY H;refine sP J J J J J J Bq J (mP.c V26) (au T J (cU (rx T 2 (mq H [0,1,7] [5,0,0,0,0,0] (λz12 (bj:Bool)=>(bj=z12,[(40,(bb bj))],[])) J J (λz12 Gt _=>?_) ?_))))
  ·refine rc T 4 (ad 33 J Gt (λGt=>?_) (λGt=>?_))
   ·refine ro T 9 (am _ [5,0,0,0,0,0] (oi Gt) J J)
   refine ro T 3 (lf T 0 J (ro T 1 (bz J (qN (k:=v10) T (Ky.int .i64 u3) (λx:Bool=>Value.bool x) J J J J J (pF uM (j:=1) J)) (ro T 3 (am _ [5,0,0,0,0,0] (oi Gt) J J)))))
  rintro _ bj rfl H;refine cb J H (λH=>?_) (λH=>?_)
  ·refine rc T 10 ?_
   cases H;exact p1 T J [1,1,1,1,1,0] ⟨sO,EA,EH,FB,Ez,xR,yG,xL,uM,AJ,uL,J,J⟩ J
  refine rc T 3 (fz J (rz [8] mix (bU bT) (λhg pf=>ha T 6 [0,1,2] sz hg pf J (al T 3 1 sz hg pf J J J (ha T 2 [4,5,6] sz hg pf J (al T 7 5 sz hg pf J J J (ao 8 (EK (g:=2) (m:=ai.ky) (k:=u.Cell) T (Ky.int .i64 u3) (λx:Bool=>Value.bool x) J J J J J J J J uM (λsF mL=>an sl (ae (rx T 7 (sg T 5 J (ro T 3 (ks [0,1,7] J (fz J (rg [12,15] [0,0,0,0,0,0] mix (bU bT) (λhg pf=>ha T 12 [0,1,2,3] sz hg pf J (al T 4 1 sz hg pf J J J (ha T 8 [5,6,7] sz hg pf J (al T 8 5 sz hg pf J J J (ha T 5 [9,10] sz hg pf J (ao 11 (dp (k:=jT) T [(fw.mk u.Id v10)] J J J J J J J J J (λa25 iD jW=>an (so [0,0,0,0,0,0]) (ao 12 ?_)))))))))))))))))))))))));obtain⟨c30,H⟩:=aF H;refine eP (k:=jT) (xs:=ai.lj) T (g:=3) J J J J J J J J J J AJ (oO jW 6) c30 J (λa26 n26 pM oX=>an sl (hb T 13 sl hg pf J (hb T 14 sl hg pf J (ao 15 (sf T 1 J (an sl (ae (rx T 1 (rc T 7 (lf T 5 J (ro T 3 (cb J H (λH=>?_) (λH=>?_)))))))))))))
  ·refine rc T 1 (ke [0,1] [0,0,0,0,0,0] J J (fz J (rg [10,13] [0,0,0,0,0,0] mix (bU bT) (λhg pf=>ha T 10 [0,1,2,3] sz hg pf J (al T 4 1 sz hg pf J J J (ha T 6 [5,6,7] sz hg pf J (al T 8 5 sz hg pf J J J (ao 9 (dp (k:=(Fl.int .i64)) T [u.Id] J J J J J J J J J (λJ1 Gg xm=>an (so [0,0,0,0,0,0]) (ao 10 ?_)))))))))));obtain⟨c32,H⟩:=aF H;refine eP (k:=(Fl.int .i64)) (xs:=ai.gone) T (g:=4) J J J J J J J J J J uL (oO xm 6) c32 J (λa28 n28 vS kL=>an sl (hb T 11 sl hg pf J (hb T 12 sl hg pf J (ao 13 (sf T 1 J (an sl (ae (rx T 1 (rc T 10 ?_)))))))))
   cases H;exact p1 T J [1,1,1,1,1,0] ⟨sO,sF,a26,n26,pM,a28,n28,vS,mL,oX,kL,J,J⟩ J
  refine rc T 6 (lf T 1 J (ro T 1 (ba (qG (g:=2) (m:=(eF ai.ky u.Cell)) (k:=v10) (v:=true) T (Ky.int .i64 u3) (λx:Bool=>Value.bool x) J J J J J J J mL (λsG sb=>ro T 11 ?_)))))
  cases H;exact p1 T J [1,1,1,1,1,0] ⟨sO,sG,a26,n26,pM,xR,yG,xL,sb,oX,uL,J,J⟩ J
 refine rc T 16 ?_
 cases H;exact p1 T J [0,0,0,0,0,0] ⟨sO,EA,EH,FB,Ez,xR,yG,xL,uM,AJ,uL,J,J⟩ J
def jU.l1:Nat->Int->Int->(List aI)->(List Int)->List aI->Int->Int->(List (Int×Bool))->List fw->List Int->Int->Option ((List aI)×(List fw)×(List Int)×Int)
 |0,_,_,_,_,_,_,_,_,_,_,_=>none
 |qa+1,w,h,l,aO,du,eH,dh,lW,eX,cg,eO=>if eO<(aa l:Int) then(if(0<=eO/\eO<(aa l:Int)) then(if(0<=eO/\eO<(aa aO:Int)) then((wX.f (nn.mk eH dh lW eX cg) (rd l eO) (rd aO eO)).bind λv25=>if v25.1=true then(if(aa du+1<=1099511627776) then(jU.l1 qa w h l aO (du++[v25.2.2]) v25.2.1.w v25.2.1.h v25.2.1.ky v25.2.1.lj v25.2.1.gone (af (eO+1))) else none) else(jU.l1 qa w h l aO du v25.2.1.w v25.2.1.h v25.2.1.ky v25.2.1.lj v25.2.1.gone (af (eO+1)))) else none) else none) else(some (du,eX,cg,0))
def jU.l0:Nat->Int->Int->(List aI)->(List Int)->(List (Int×Bool))->Int->Option ((List aI)×(List fw)×(List Int)×Int)
 |0,_,_,_,_,_,_=>none
 |k9+1,w,h,l,aO,x7,x8=>if x8<(aa l:Int) then(if(0<=x8/\x8<(aa l:Int)) then(jU.l0 k9 w h l aO (cF x7 ((rd l x8).Cell) true) (af (x8+1))) else none) else(jU.l1 fuel w h l aO [] w h x7 [] [] 0)
def jU.f (w:Int) (h:Int) (l:(List aI)) (aO:(List Int)):Option ((List aI)×(List fw)×(List Int)×Int):=((qm.f w h l).bind λv3=>if((!v3)||((aa aO:Int)!=(aa l:Int)))=true then(some true) else((Ei.f aO).bind λv4=>some v4)).bind λx1=>if x1=true then(some ([],[],[],1)) else(jU.l0 fuel w h l aO ([]:(List (Int×Bool))) 0)
def jU.R (r:((List aI)×(List fw)×(List Int)×Int)):bm:=λu G=> ∃a0 n0 H0 a1 n1 H1 a2 n2 H2,ak mc 67 r.1 a0 n0 H0/\ak jT 94 r.2.1 a1 n1 H1/\ak (Fl.int .i64) 3 r.2.2.1 a2 n2 H2/\u=(.tuple #[(ll a0 r.1 n0),(ll a1 r.2.1 n1),(ll a2 r.2.2.1 n2),(ii r.2.2.2)])/\G=[H0,H1,H2]
theorem jU.c (H:jU.f w h l aO=some r) (dt:aU mc l ig F) (gn:aa l<=g_) (Hn:aU (Fl.int .i64) aO M8 F) (NJ:aa aO<=P_):
 QR 166 [(ii w),(ii h),(ll ig l g_),(ll M8 aO P_)] [] [] F (jU.R r):=by
 unfold jU.f at H;refine aH Tryz.func166 J J (λW=>rc T 14 (mq H [0,1,2,3,8] [0] (λz2 (x1:Bool)=>(x1=z2,[(34,(bb x1))],[])) J J (λz2 Z1 _=>?_) ?_))
 ·refine rc T 4 (k [] J Vl Z1 (qm.c · (rO dt 0) gn) (λv3 Z1=>ro T 2 (go T [6,7,8,9,10,11] 23 [0,1,2,3,8,12] 29 J J J J J J J (ro T 1 (ab 30 J Z1 (λZ1=>?_) (λZ1=>?_))))))
  ·refine ro T 6 (am _ [0] (oi Z1) J J)
  refine ro T 2 (k [] J aex Z1 (Ei.c · (rO Hn 0) NJ) (λv4 Z1=>ro T 3 (am _ [0] (oi Z1) J J)))
 rintro _ x1 rfl H;refine cb J H (λH=>?_) (λH=>?_)
 ·refine rc T 10 ?_
  cases H;refine bC (bC (bC (p1 T J [1,1,1,0] ⟨none,0,[],none,0,[],none,0,[],ak.nil,ak.nil,ak.nil,J,J⟩ J)))
 refine rc T 8 (ba (wo T (Ky.int .i64 u3) (λx:Bool=>Value.bool x) J J J ⟨_,_,J⟩ (λa4 H4 s4=>ro T 1 (nc T J (λb5=>ro T 12 (lq [2,3,8,13,42,43] [0] (λ(⟨k9,x7,x8,a7,H7⟩:Nat×(List (Int×Bool))×Int×Nat×Hp)=>(jU.l0 k9 w h l aO x7 x8=some r/\de (Ky.int .i64 u3) (λx:Bool=>Value.bool x) x7 a7 H7,[(44,(ii x8))],[(cl b5 309 [(ii w),(ii h),(.map (some a7)),nl,nl]),H7])) J J (fuel,([]:(List (Int×Bool))),0,a4,H4) [0,1,0] ⟨H,s4⟩ J J ?_))))));rintro k9 ⟨x7,x8,a7,H7⟩ ⟨Z6,s7⟩;rw[jU.l0] at Z6;refine rc T 6 (cd J Z6 (λZ6=>?_) (λZ6=>?_))
 ·refine rc T 6 ?_;obtain⟨c8,Z6⟩:=aF Z6;obtain⟨q8,o8,e8⟩:=dt.addr c8.1 c8.2;refine ix T J e8 c8 (bz J (gp T (cs:=[(ii (rd l x8).Id),(ii (rd l x8).Cell),(ii (rd l x8).Goal)]) J J J J J J (iI (k:=mc) (rO dt 0) e8 c8 J)) (nc T J (λb9=>sg T 3 J (ro T 2 (ks [2,3,8,13,15,42,43,44] J (fz J (rz [6] mix (bU bT) (λhg pf=>ha T 4 [0,1,2] sz hg pf J (al T 3 1 sz hg pf J J J (ha T 2 [4] sz hg pf J (al T 5 3 sz hg pf J J J (ao 6 (qG (g:=2) (m:=x7) (k:=(rd l x8).Cell) (v:=true) T (Ky.int .i64 u3) (λx:Bool=>Value.bool x) J J J J J J J s7 (λcu bX=>an sl (ae (rx T 7 (ar (_,_,_,_) [0,0,0] ⟨Z6,bX⟩ J J)))))))))))))))))
 refine rc T 14 (bC (bC (bC (lq [3,13,55,56] [0] (λ(⟨qa,du,eH,dh,lW,eX,cg,eO,kC,n15,dT,kD,gB,a17,n17,eZ,jA,n18,fE⟩:Nat×List aI×Int×Int×(List (Int×Bool))×List fw×List Int×Int×Option Addr×Nat×Hp×Nat×Hp×Option Addr×Nat×Hp×Option Addr×Nat×Hp)=>(jU.l1 qa w h l aO du eH dh lW eX cg eO=some r/\ak mc 67 du kC n15 dT/\de (Ky.int .i64 u3) (λx:Bool=>Value.bool x) lW kD gB/\ak jT 94 eX a17 n17 eZ/\ak (Fl.int .i64) 3 cg jA n18 fE,[(8,(ll kC du n15)),(57,(ii eO))],[dT,(cl b5 309 [(ii eH),(ii dh),(.map (some kD)),(ll a17 eX n17),(ll jA cg n18)]),gB,eZ,fE])) J J (fuel,[],w,h,x7,[],[],0,none,0,[],a7,H7,none,0,[],none,0,[]) [0,2,0,0,0,0] ⟨Z6,ak.nil,s7,ak.nil,ak.nil⟩ J J ?_))));rintro qa ⟨du,eH,dh,lW,eX,cg,eO,kC,n15,dT,kD,gB,a17,n17,eZ,jA,n18,fE⟩ ⟨Z9,eG,gw,fO,fP⟩;rw[jU.l1] at Z9;refine rc T 6 (cd J Z9 (λZ9=>?_) (λZ9=>?_))
 ·refine rc T 7 ?_;obtain⟨eQ,Z9⟩:=aF Z9;obtain⟨q19,o19,G4⟩:=dt.addr eQ.1 eQ.2;refine ix T J G4 eQ (bz J (gp T (cs:=[(ii (rd l eO).Id),(ii (rd l eO).Cell),(ii (rd l eO).Goal)]) J J J J J J (iI (k:=mc) (rO dt 0) G4 eQ J)) (nc T J (λKh=>ro T 1 (sg T 6 J (ro T 7 ?_)))));obtain⟨iF,Z9⟩:=aF Z9;obtain⟨FJ,o21,G5⟩:=Hn.addr iF.1 iF.2;refine ix T J G5 iF (le T 0 (rO Hn 0) G5 iF J J (kr (wX.R b5 Kh) [] [2,2,2,2,2] J aey Z9 (wX.c (ai:=(nn.mk eH dh lW eX cg)) · gw fO fP) (λv25 Z9=>?_)));rintro _ _ ⟨a22,nI,a23,n23,j5,a24,n24,sF,jd,iA,mL,rfl,rfl⟩;refine fz J (ro T 2 (cb J Z9 (λZ9=>?_) (λZ9=>?_)))
  ·refine rc T 2 (lm T 6 J (ba (dp (k:=mc) T [v25.2.2] J J J J J J J J J (λa25 iD jW=>?_))));obtain⟨zK,Z9⟩:=aF Z9;refine ba (eP (k:=mc) (xs:=du) T (g:=1) J J J J J J J J J J eG (oO jW 7) zK J (λa26 n26 pM oX=>ro T 2 (ke [3,8,13,55,56,57] [0,0,0,0,0,0] J J (rx T 7 (ar (_,_,_,_,_,_,_,_,_,_,_,_,_,_,_,_,_,_) [0,0,0,0,0,0] ⟨Z9,oX,jd,iA,mL⟩ J J)))))
  refine rc T 8 (ar (_,_,_,_,_,_,_,_,_,_,_,_,_,_,_,_,_,_) [0,0,0,0,0,0] ⟨Z9,eG,jd,iA,mL⟩ J J)
 refine rc T 6 (dy mix aA ?_)
 iterate 4 refine au T J ?_
 refine cB T 2 J J J (au T J (au T J (au T J (cB T 2 J J J ?_))))
 iterate 4 refine au T J ?_
 refine cU (rx T 2 ?_)
 cases Z9;exact p1 T J [1,3,3,0] ⟨kC,n15,dT,a17,n17,eZ,jA,n18,fE,eG,fO,fP,J,J⟩ J
end
noncomputable section
def zd.f (most:Int):Option (Option fC):=if((decide (most<1))||(decide (most>65536)))=true then(some none) else(some (some (fC.mk most 0 ([]:(List (Int×aI))) [])))
def zd.R (r:(Option fC)):bm:=λu G=> ∃(u0:Value) (G0:List Hp),ZS r u0 G0/\u=u0/\G=G0
theorem zd.c (H:zd.f most=some r):
 QR 152 [(ii most)] [] [] F (zd.R r):=by
 unfold zd.f at H;refine aH Tryz.func152 J J (λW=>rc T 11 (go T [3,4,5] 5 [0] 8 J J J J J J J (ro T 2 (cb J H (λH=>?_) (λH=>?_)))))
 ·refine rc T 7 ?_
  cases H;exact p1 T J [0] ⟨_,_,⟨J,J⟩,J,J⟩ J
 refine rc T 5 (ba (wo T (Ky.int .i64 u3) (λx:aI=>Value.agg #[.int .i64 x.Id,.int .i64 x.Cell,.int .i64 x.Goal]) J J J trivial (λa1 H1 s1=>ro T 1 (nc T J (λb2=>ro T 4 ?_)))))
 cases H;refine bC (p1 T J [2,1,1,0] ⟨_,_,⟨b2,a1,H1,none,0,[],s1,ak.nil,J,J⟩,J,J⟩ J)
def xC.f (u:fC):Option Int:=some (aa u.live:Int)
theorem xC.c (H:xC.f u=some r) (jX:de (Ky.int .i64 u3) (λx:aI=>Value.agg #[.int .i64 x.Id,.int .i64 x.Cell,.int .i64 x.Goal]) u.live jm kS) (kM:ak (Fl.int .i64) 3 u.order jN jV jK):
 QU 158 [(pp ff)] [(cl ff 178 [(ii u.most),(ii u.next),(.map (some jm)),(ll jN u.order jV)]),kS,jK] F (ii r):=by
 unfold xC.f at H;refine aH Tryz.func158 J J (λW=>rc T 12 (fj J (rc T 7 (lf T 0 J (bz J (Of T (Ky.int .i64 u3) (λx:aI=>Value.agg #[.int .i64 x.Id,.int .i64 x.Cell,.int .i64 x.Goal]) J J J (pF jX (j:=1) J)) (ro T 4 ?_))))))
 cases H;exact p0 T J [0,0,0,0] J
def xB.f (u:fC) (cell:Int) (goal:Int):Option (Int×Bool×fC):=if(aa u.live:Int)≥u.most then(some (0,false,u)) else(if(aa u.order+1<=1099511627776) then(some (u.next,true,(fC.mk u.most (af (u.next+1)) (cF u.live u.next (aI.mk u.next cell goal)) (u.order++[u.next])))) else none)
def xB.R (ff:Nat) (r:(Int×Bool×fC)):bm:=λu G=> ∃(a0:Nat) (H0:Hp) (a1 n1 H1:_),de (Ky.int .i64 u3) (λx:aI=>Value.agg #[.int .i64 x.Id,.int .i64 x.Cell,.int .i64 x.Goal]) r.2.2.live a0 H0/\ak (Fl.int .i64) 3 r.2.2.order a1 n1 H1/\u=(.tuple #[(ii r.1),(bb r.2.1)])/\G=[(cl ff 178 [(ii r.2.2.most),(ii r.2.2.next),(.map (some a0)),(ll a1 r.2.2.order n1)]),H0,H1]
theorem xB.c (H:xB.f u cell goal=some r) (jX:de (Ky.int .i64 u3) (λx:aI=>Value.agg #[.int .i64 x.Id,.int .i64 x.Cell,.int .i64 x.Goal]) u.live jm kS) (kM:ak (Fl.int .i64) 3 u.order jN jV jK):
 QR 156 [(pp ff),(ii cell),(ii goal)] [(cl ff 178 [(ii u.most),(ii u.next),(.map (some jm)),(ll jN u.order jV)]),kS,jK] [] F (xB.R ff r):=by
 unfold xB.f at H;refine aH Tryz.func156 J J (λW=>rc T 8 (dy mix aA ?_))
 iterate 6 refine au T J ?_
 refine cB T 0 J J J (br J J J (Of T (Ky.int .i64 u3) (λx:aI=>Value.agg #[.int .i64 x.Id,.int .i64 x.Cell,.int .i64 x.Goal]) J J J (pF jX (j:=1) J)) (au T J (au T J (au T J (cB T 0 J J J (au T J (au T J (cU (rx T 1 (cd J H (λH=>?_) (λH=>?_)))))))))))
 ·refine rc T 8 ?_
  cases H;exact p1 T J [0,0,0,0] ⟨jm,kS,jN,jV,jK,jX,kM,J,J⟩ J
 refine rc T 7 (lf T 0 J (ro T 8 (lf T 0 J (ro T 3 (sg T 0 J (ro T 7 (lf T 0 J (ro T 5 (ba (qG (g:=1) (m:=u.live) (k:=u.next) (v:=(aI.mk u.next cell goal)) T (Ky.int .i64 u3) (λx:aI=>Value.agg #[.int .i64 x.Id,.int .i64 x.Cell,.int .i64 x.Goal]) J J J J J J J jX (λH4 s4=>ro T 8 (lf T 0 J (ro T 1 (ba (dp (k:=(Fl.int .i64)) T [u.next] J J J J J J J J J (λa5 H5 s5=>?_))))))))))))))))
 obtain⟨c2,H⟩:=aF H;refine ba (eP (k:=(Fl.int .i64)) (xs:=u.order) T (g:=2) J J J J J J J J J J kM (oO s5 4) c2 J (λa6 n6 H6 s6=>ro T 2 (sg T 0 J (ro T 1 (ke [8] [0,0,0,0] J J (rx T 9 ?_))))))
 cases H;exact p1 T J [0,0,0,0] ⟨jm,H4,a6,n6,H6,s4,s6,J,J⟩ J
def pK.f (u:fC) (aj:Int):Option (aI×Bool):=some ((aI.mk ((aP u.live aj).Id) ((aP u.live aj).Cell) ((aP u.live aj).Goal)),(bt u.live aj))
theorem pK.c (H:pK.f u aj=some r) (jX:de (Ky.int .i64 u3) (λx:aI=>Value.agg #[.int .i64 x.Id,.int .i64 x.Cell,.int .i64 x.Goal]) u.live jm kS) (kM:ak (Fl.int .i64) 3 u.order jN jV jK):
 QU 122 [(pp ff),(ii aj)] [(cl ff 178 [(ii u.most),(ii u.next),(.map (some jm)),(ll jN u.order jV)]),kS,jK] F (.tuple #[(.agg #[(ii r.1.Id),(ii r.1.Cell),(ii r.1.Goal)]),(bb r.2)]):=by
 unfold pK.f at H;refine aH Tryz.func122 J J (λW=>rc T 2 (nc T J (λb4=>ro T 10 (fj J (rc T 7 (lf T 0 J (ro T 1 (bz J (qN (k:=aj) T (Ky.int .i64 u3) (λx:aI=>Value.agg #[.int .i64 x.Id,.int .i64 x.Cell,.int .i64 x.Goal]) J J J J J (pF jX (j:=1) J)) (ro T 3 (nc T J (λb5=>sg T 5 J (ro T 5 (lm T 5 J (ro T 1 (sg T 4 J (ro T 2 (ke [4,5] [0,0,0,0,0] J J (rx T 1 (rc T 1 ?_)))))))))))))))))))
 cases H;exact pb T J (.c_ (j:=4) [(ii (aP u.live aj).Id),(ii (aP u.live aj).Cell),(ii (aP u.live aj).Goal)] J J J J J J J (.tmp J .nil)) [0,0,0,0] () J J
def mh.l0:Nat->fC->List Int->Int->Option (List Int)
 |0,_,_,_=>none
 |k5+1,u,x3,x4=>if x4<(aa u.order:Int) then(if(0<=x4/\x4<(aa u.order:Int)) then(if(bt u.live (rd u.order x4))=true then(if(aa x3+1<=1099511627776) then(mh.l0 k5 u (x3++[(rd u.order x4)]) (af (x4+1))) else none) else(mh.l0 k5 u x3 (af (x4+1)))) else none) else(some x3)
def mh.f (u:fC):Option (List Int):=mh.l0 fuel u [] 0
def mh.R (r:(List Int)):bm:=λu G=> ∃a0 n0 H0,ak (Fl.int .i64) 3 r a0 n0 H0/\u=(ll a0 r n0)/\G=[H0]
theorem mh.c (H:mh.f u=some r) (jX:de (Ky.int .i64 u3) (λx:aI=>Value.agg #[.int .i64 x.Id,.int .i64 x.Cell,.int .i64 x.Goal]) u.live jm kS) (kM:ak (Fl.int .i64) 3 u.order jN jV jK):
 QR 109 [(pp ff)] [(cl ff 178 [(ii u.most),(ii u.next),(.map (some jm)),(ll jN u.order jV)]),kS,jK] [(cl ff 178 [(ii u.most),(ii u.next),(.map (some jm)),(ll jN u.order jV)]),kS,jK] F (mh.R r):=by
 unfold mh.f at H;refine aH Tryz.func109 J J (λW=>rc T 16 (lf T 0 J (ro T 5 (bC (lq [0,11,12] [3,0,0,0] (λ(⟨k5,x3,x4,a5,n5,H5⟩:Nat×List Int×Int×Option Addr×Nat×Hp)=>(mh.l0 k5 u x3 x4=some r/\ak (Fl.int .i64) 3 x3 a5 n5 H5,[(3,(ll a5 x3 n5)),(13,(ii x4))],[H5])) J J (fuel,[],0,none,0,[]) [3,0,0,0,0] ⟨H,ak.nil⟩ J J ?_)))));rintro k5 ⟨x3,x4,a5,n5,H5⟩ ⟨Z1,s5⟩;rw[mh.l0] at Z1;refine rc T 6 (cd J Z1 (λZ1=>?_) (λZ1=>?_))
 ·refine rc T 6 ?_;obtain⟨c3,Z1⟩:=aF Z1;obtain⟨q6,o6,e6⟩:=kM.r.addr c3.1 c3.2;refine ix T J e6 c3 (le T 0 (oO kM 3) e6 c3 J J (ro T 8 (lf T 1 J (ro T 1 (bz J (qN (k:=(rd u.order x4)) T (Ky.int .i64 u3) (λx:aI=>Value.agg #[.int .i64 x.Id,.int .i64 x.Cell,.int .i64 x.Goal]) J J J J J (pF jX (j:=2) J)) (ro T 3 (nc T J (λb7=>sg T 5 J (ro T 8 (cb J Z1 (λZ1=>?_) (λZ1=>?_)))))))))))
  ·refine rc T 3 (ba (dp (k:=(Fl.int .i64)) T [(rd u.order x4)] J J J J J J J J J (λa8 H8 s8=>?_)));obtain⟨c5,Z1⟩:=aF Z1;refine ba (eP (k:=(Fl.int .i64)) (xs:=x3) T (g:=4) J J J J J J J J J J s5 (oO s8 6) c5 J (λa9 n9 H9 s9=>ro T 9 (ar (_,_,_,_,_) [0,0,0,0,0] ⟨Z1,s9⟩ J J)))
  refine rc T 8 (ar (_,_,_,_,_) [0,0,0,0,0] ⟨Z1,s5⟩ J J)
 refine rc T 12 ?_
 cases Z1;exact p1 T J [4,1,1,1,0] ⟨a5,n5,H5,s5,J,J⟩ J
def zf.f (u:fC) (aj:Int):Option (Bool×fC):=(pK.f u aj).bind λv1=>if(!v1.2)=true then(some (false,u)) else(if(aa u.order:Int)>(af (2*(aa (eF u.live aj):Int))) then((mh.f (fC.mk u.most u.next (eF u.live aj) u.order)).bind λv2=>some (true,(fC.mk u.most u.next (eF u.live aj) v2))) else(some (true,(fC.mk u.most u.next (eF u.live aj) u.order))))
def zf.R (ff:Nat) (r:(Bool×fC)):bm:=λu G=> ∃(a0:Nat) (H0:Hp) (a1 n1 H1:_),de (Ky.int .i64 u3) (λx:aI=>Value.agg #[.int .i64 x.Id,.int .i64 x.Cell,.int .i64 x.Goal]) r.2.live a0 H0/\ak (Fl.int .i64) 3 r.2.order a1 n1 H1/\u=(bb r.1)/\G=[(cl ff 178 [(ii r.2.most),(ii r.2.next),(.map (some a0)),(ll a1 r.2.order n1)]),H0,H1]
theorem zf.c (H:zf.f u aj=some r) (jX:de (Ky.int .i64 u3) (λx:aI=>Value.agg #[.int .i64 x.Id,.int .i64 x.Cell,.int .i64 x.Goal]) u.live jm kS) (kM:ak (Fl.int .i64) 3 u.order jN jV jK):
 QR 159 [(pp ff),(ii aj)] [(cl ff 178 [(ii u.most),(ii u.next),(.map (some jm)),(ll jN u.order jV)]),kS,jK] [] F (zf.R ff r):=by
 unfold zf.f at H;refine aH Tryz.func159 J J (λW=>rc T 9 (k [0,0,0] J C6 H (pK.c · jX kM) (λv1 H=>ro T 3 (nc T J (λb4=>sg T 4 J (ro T 10 (cb J H (λH=>?_) (λH=>?_))))))))
 ·refine rc T 7 ?_
  cases H;exact p1 T J [0,0,0,0] ⟨jm,kS,jN,jV,jK,jX,kM,J,J⟩ J
 refine rc T 7 (lf T 0 J (ro T 1 (ba (EK (g:=1) (m:=u.live) (k:=aj) T (Ky.int .i64 u3) (λx:aI=>Value.agg #[.int .i64 x.Id,.int .i64 x.Cell,.int .i64 x.Goal]) J J J J J J J J jX (λH5 s5=>ro T 4 (dy mix aA (au T J (au T J (au T J (cB T 0 J J J ?_))))))))))
 iterate 4 refine au T J ?_
 refine cB T 0 J J J (br J J J (Of T (Ky.int .i64 u3) (λx:aI=>Value.agg #[.int .i64 x.Id,.int .i64 x.Cell,.int .i64 x.Goal]) J J J (pF s5 (j:=1) J)) (au T J (au T J (cU (rx T 1 (cd J H (λH=>?_) (λH=>?_)))))))
 ·refine rc T 3 (kr mh.R [0,0,0] [0,0,0] J UA H (mh.c (u:=(fC.mk u.most u.next (eF u.live aj) u.order)) · s5 kM) (λv2 H=>?_))
  rintro _ _ ⟨a6,n6,H6,s6,rfl,rfl⟩;refine fz J (ro T 2 (sg T 3 J (ro T 1 (ke [] [0,1,1,1] J J (rx T 7 ?_)))))
  cases H;exact p1 T J [2,2,1,0] ⟨jm,H5,a6,n6,H6,s5,s6,J,J⟩ J
 refine rc T 8 ?_
 cases H;exact p1 T J [0,0,0,0] ⟨jm,H5,jN,jV,jK,s5,kM,J,J⟩ J
def Ce.f (x:aI) (aj:Int):Option aI:=some (aI.mk x.Id x.Cell aj)
def Ce.R (zG:Nat) (r:aI) (u:Value) (G:List Hp):Prop:=u=(.tuple #[])/\G=[(cl zG 67 [(ii r.Id),(ii r.Cell),(ii r.Goal)])]
theorem Ce.c (H:Ce.f x aj=some r):
 QR 162 [(pp zG),(pp vc)] [(cl zG 67 [(ii x.Id),(ii x.Cell),(ii x.Goal)]),(cl vc 3 [(ii aj)])] [(cl vc 3 [(ii aj)])] F (Ce.R zG r):=by
 unfold Ce.f at H;refine aH Tryz.func162 J J (λW=>rc T 2 (lf T 1 J (ro T 2 (sg T 0 J (ro T 1 (jB ?_))))))
 cases H;exact p1 T J [0,0,0] ⟨J,J⟩ J
def zh.f (u:fC) (aj:Int) (Av:Int):Option (Bool×fC):=(pK.f u aj).bind λv1=>if v1.2=true then((Ce.f v1.1 Av).bind λv2=>some (v1.2,(fC.mk u.most u.next (cF u.live aj v2) u.order))) else(some (v1.2,u))
def zh.R (ff:Nat) (r:(Bool×fC)):bm:=λu G=> ∃(a0:Nat) (H0:Hp) (a1 n1 H1:_),de (Ky.int .i64 u3) (λx:aI=>Value.agg #[.int .i64 x.Id,.int .i64 x.Cell,.int .i64 x.Goal]) r.2.live a0 H0/\ak (Fl.int .i64) 3 r.2.order a1 n1 H1/\u=(bb r.1)/\G=[(cl ff 178 [(ii r.2.most),(ii r.2.next),(.map (some a0)),(ll a1 r.2.order n1)]),H0,H1]
theorem zh.c (H:zh.f u aj Av=some r) (jX:de (Ky.int .i64 u3) (λx:aI=>Value.agg #[.int .i64 x.Id,.int .i64 x.Cell,.int .i64 x.Goal]) u.live jm kS) (kM:ak (Fl.int .i64) 3 u.order jN jV jK):
 QR 161 [(pp ff),(ii aj),(.func (.func 162) #[] #[(pp GU)])] [(cl ff 178 [(ii u.most),(ii u.next),(.map (some jm)),(ll jN u.order jV)]),kS,jK,(cl GU 3 [(ii Av)])] [(cl GU 3 [(ii Av)])] F (zh.R ff r):=by
 unfold zh.f at H;refine aH Tryz.func161 J J (λW=>rc T 9 (k [0,0,0] J C6 H (pK.c · jX kM) (λv1 H=>ro T 3 (nc T J (λb5=>sg T 5 J (ro T 9 (cb J H (λH=>?_) (λH=>?_))))))))
 ·refine rc T 3 (kr (Ce.R b5) [3] [5,3] J aed H (Ce.c ·) (λv2 H=>?_));rintro _ _ ⟨rfl,rfl⟩;refine fz J (ro T 2 (ks [0,1,7,8] J (fz J (rz [6] mix (bU bT) (λhg pf=>ha T 4 [0,1,2] sz hg pf J (al T 3 0 sz hg pf J J J (ha T 2 [4] sz hg pf J (av 5 sz hg pf J (gA T 4 J J J J J J J) (ao 6 (qG (g:=1) (m:=u.live) (k:=aj) (v:=v2) T (Ky.int .i64 u3) (λx:aI=>Value.agg #[.int .i64 x.Id,.int .i64 x.Cell,.int .i64 x.Goal]) J J J J J J J jX (λH6 s6=>an sl (ae (rx T 8 ?_)))))))))))))
  cases H;exact p1 T J [0,0,0,2,0] ⟨jm,H6,jN,jV,jK,s6,kM,J,J⟩ J
 refine rc T 9 ?_
 cases H;exact p1 T J [0,0,0,0,0] ⟨jm,kS,jN,jV,jK,jX,kM,J,J⟩ J
def ze.f (u:fC) (aj:Int) (goal:Int):Option (Bool×fC):=(zh.f u aj goal).bind λv1=>some (v1.1,v1.2)
def ze.R (ff:Nat) (r:(Bool×fC)):bm:=λu G=> ∃(a0:Nat) (H0:Hp) (a1 n1 H1:_),de (Ky.int .i64 u3) (λx:aI=>Value.agg #[.int .i64 x.Id,.int .i64 x.Cell,.int .i64 x.Goal]) r.2.live a0 H0/\ak (Fl.int .i64) 3 r.2.order a1 n1 H1/\u=(bb r.1)/\G=[(cl ff 178 [(ii r.2.most),(ii r.2.next),(.map (some a0)),(ll a1 r.2.order n1)]),H0,H1]
theorem ze.c (H:ze.f u aj goal=some r) (jX:de (Ky.int .i64 u3) (λx:aI=>Value.agg #[.int .i64 x.Id,.int .i64 x.Cell,.int .i64 x.Goal]) u.live jm kS) (kM:ak (Fl.int .i64) 3 u.order jN jV jK):
 QR 126 [(pp ff),(ii aj),(ii goal)] [(cl ff 178 [(ii u.most),(ii u.next),(.map (some jm)),(ll jN u.order jV)]),kS,jK] [] F (ze.R ff r):=by
 unfold ze.f at H;refine aH Tryz.func126 J J (λW=>rc T 2 (nc T J (λb4=>ro T 8 (kr (zh.R ff) [4] [0,0,0,1] J UP H (zh.c · jX kM) (λv1 H=>?_)))));rintro _ _ ⟨a5,H5,a6,n6,H6,s5,s6,rfl,rfl⟩;refine fz J (ro T 4 ?_)
 cases H;exact p1 T J [1,1,1,0] ⟨a5,H5,a6,n6,H6,s5,s6,J,J⟩ J
def pJ.l0:Nat->fC->(List Int)->List aI->Int->Option (List aI)
 |0,_,_,_,_=>none
 |k6+1,u,v1,x4,x5=>if x5<(aa v1:Int) then(if(0<=x5/\x5<(aa v1:Int)) then(if(aa x4+1<=1099511627776) then(pJ.l0 k6 u v1 (x4++[(aI.mk ((aP u.live (rd v1 x5)).Id) ((aP u.live (rd v1 x5)).Cell) ((aP u.live (rd v1 x5)).Goal))]) (af (x5+1))) else none) else none) else(some x4)
def pJ.f (u:fC):Option (List aI):=(mh.f u).bind λv1=>pJ.l0 fuel u v1 [] 0
def pJ.R (r:(List aI)):bm:=λu G=> ∃a0 n0 H0,ak mc 67 r a0 n0 H0/\u=(ll a0 r n0)/\G=[H0]
theorem pJ.c (H:pJ.f u=some r) (jX:de (Ky.int .i64 u3) (λx:aI=>Value.agg #[.int .i64 x.Id,.int .i64 x.Cell,.int .i64 x.Goal]) u.live jm kS) (kM:ak (Fl.int .i64) 3 u.order jN jV jK):
 QR 81 [(pp ff)] [(cl ff 178 [(ii u.most),(ii u.next),(.map (some jm)),(ll jN u.order jV)]),kS,jK] [(cl ff 178 [(ii u.most),(ii u.next),(.map (some jm)),(ll jN u.order jV)]),kS,jK] F (pJ.R r):=by
 unfold pJ.f at H;refine aH Tryz.func81 J J (λW=>rc T 12 (fj J (rc T 11 (kr mh.R [0,0,0] [0,0,0] J UA H (mh.c · jX kM) (λv1 H=>?_)))));rintro _ _ ⟨a4,n4,H4,s4,rfl,rfl⟩;refine fz J (ro T 5 (bC (lq [0,9,10] [0,1,1,1,0] (λ(⟨k6,x4,x5,a6,n6,H6⟩:Nat×List aI×Int×Option Addr×Nat×Hp)=>(pJ.l0 k6 u v1 x4 x5=some r/\ak mc 67 x4 a6 n6 H6,[(3,(ll a6 x4 n6)),(11,(ii x5))],[H6])) J J (fuel,[],0,none,0,[]) [0,1,1,1,0,0] ⟨H,ak.nil⟩ J J ?_)));rintro k6 ⟨x4,x5,a6,n6,H6⟩ ⟨Z2,s6⟩;rw[pJ.l0] at Z2;refine rc T 6 (cd J Z2 (λZ2=>?_) (λZ2=>?_))
 ·refine rc T 6 ?_;obtain⟨c4,Z2⟩:=aF Z2;obtain⟨q7,o7,e7⟩:=s4.r.addr c4.1 c4.2;refine ix T J e7 c4 (le T 0 (oO s4 4) e7 c4 J J (ro T 8 (lf T 1 J (ro T 1 (bz J (qN (k:=(rd v1 x5)) T (Ky.int .i64 u3) (λx:aI=>Value.agg #[.int .i64 x.Id,.int .i64 x.Cell,.int .i64 x.Goal]) J J J J J (pF jX (j:=2) J)) (ba (dp (k:=mc) T [(aI.mk ((aP u.live (rd v1 x5)).Id) ((aP u.live (rd v1 x5)).Cell) ((aP u.live (rd v1 x5)).Goal))] J J J J J J J J J (λa8 H8 s8=>?_))))))));obtain⟨c5,Z2⟩:=aF Z2;refine ba (eP (k:=mc) (xs:=x4) T (g:=5) J J J J J J J J J J s6 (oO s8 6) c5 J (λa9 n9 H9 s9=>ro T 9 (ar (_,_,_,_,_) [0,0,0,0,0,0] ⟨Z2,s9⟩ J J)))
 refine rc T 12 ?_
 cases Z2;exact p1 T J [5,1,1,1,0] ⟨a6,n6,H6,s6,J,J⟩ J
def Cf.f (x:aI) (aj:Int):Option aI:=some (aI.mk x.Id aj x.Goal)
def Cf.R (zG:Nat) (r:aI) (u:Value) (G:List Hp):Prop:=u=(.tuple #[])/\G=[(cl zG 67 [(ii r.Id),(ii r.Cell),(ii r.Goal)])]
theorem Cf.c (H:Cf.f x aj=some r):
 QR 200 [(pp zG),(pp vc)] [(cl zG 67 [(ii x.Id),(ii x.Cell),(ii x.Goal)]),(cl vc 3 [(ii aj)])] [(cl vc 3 [(ii aj)])] F (Cf.R zG r):=by
 unfold Cf.f at H;refine aH Tryz.func200 J J (λW=>rc T 2 (lf T 1 J (ro T 2 (sg T 0 J (ro T 1 (jB ?_))))))
 cases H;exact p1 T J [0,0,0] ⟨J,J⟩ J
def zi.f (u:fC) (aj:Int) (Av:Int):Option (Bool×fC):=(pK.f u aj).bind λv1=>if v1.2=true then((Cf.f v1.1 Av).bind λv2=>some (v1.2,(fC.mk u.most u.next (cF u.live aj v2) u.order))) else(some (v1.2,u))
def zi.R (ff:Nat) (r:(Bool×fC)):bm:=λu G=> ∃(a0:Nat) (H0:Hp) (a1 n1 H1:_),de (Ky.int .i64 u3) (λx:aI=>Value.agg #[.int .i64 x.Id,.int .i64 x.Cell,.int .i64 x.Goal]) r.2.live a0 H0/\ak (Fl.int .i64) 3 r.2.order a1 n1 H1/\u=(bb r.1)/\G=[(cl ff 178 [(ii r.2.most),(ii r.2.next),(.map (some a0)),(ll a1 r.2.order n1)]),H0,H1]
theorem zi.c (H:zi.f u aj Av=some r) (jX:de (Ky.int .i64 u3) (λx:aI=>Value.agg #[.int .i64 x.Id,.int .i64 x.Cell,.int .i64 x.Goal]) u.live jm kS) (kM:ak (Fl.int .i64) 3 u.order jN jV jK):
 QR 161 [(pp ff),(ii aj),(.func (.func 200) #[] #[(pp GU)])] [(cl ff 178 [(ii u.most),(ii u.next),(.map (some jm)),(ll jN u.order jV)]),kS,jK,(cl GU 3 [(ii Av)])] [(cl GU 3 [(ii Av)])] F (zi.R ff r):=by
 unfold zi.f at H;refine aH Tryz.func161 J J (λW=>rc T 9 (k [0,0,0] J C6 H (pK.c · jX kM) (λv1 H=>ro T 3 (nc T J (λb5=>sg T 5 J (ro T 9 (cb J H (λH=>?_) (λH=>?_))))))))
 ·refine rc T 3 (kr (Cf.R b5) [3] [5,3] J aeA H (Cf.c ·) (λv2 H=>?_));rintro _ _ ⟨rfl,rfl⟩;refine fz J (ro T 2 (ks [0,1,7,8] J (fz J (rz [6] mix (bU bT) (λhg pf=>ha T 4 [0,1,2] sz hg pf J (al T 3 0 sz hg pf J J J (ha T 2 [4] sz hg pf J (av 5 sz hg pf J (gA T 4 J J J J J J J) (ao 6 (qG (g:=1) (m:=u.live) (k:=aj) (v:=v2) T (Ky.int .i64 u3) (λx:aI=>Value.agg #[.int .i64 x.Id,.int .i64 x.Cell,.int .i64 x.Goal]) J J J J J J J jX (λH6 s6=>an sl (ae (rx T 8 ?_)))))))))))))
  cases H;exact p1 T J [0,0,0,2,0] ⟨jm,H6,jN,jV,jK,s6,kM,J,J⟩ J
 refine rc T 9 ?_
 cases H;exact p1 T J [0,0,0,0,0] ⟨jm,kS,jN,jV,jK,jX,kM,J,J⟩ J
def zg.f (u:fC) (aj:Int) (cell:Int):Option (Bool×fC):=(zi.f u aj cell).bind λv1=>some (v1.1,v1.2)
def zg.R (ff:Nat) (r:(Bool×fC)):bm:=λu G=> ∃(a0:Nat) (H0:Hp) (a1 n1 H1:_),de (Ky.int .i64 u3) (λx:aI=>Value.agg #[.int .i64 x.Id,.int .i64 x.Cell,.int .i64 x.Goal]) r.2.live a0 H0/\ak (Fl.int .i64) 3 r.2.order a1 n1 H1/\u=(bb r.1)/\G=[(cl ff 178 [(ii r.2.most),(ii r.2.next),(.map (some a0)),(ll a1 r.2.order n1)]),H0,H1]
theorem zg.c (H:zg.f u aj cell=some r) (jX:de (Ky.int .i64 u3) (λx:aI=>Value.agg #[.int .i64 x.Id,.int .i64 x.Cell,.int .i64 x.Goal]) u.live jm kS) (kM:ak (Fl.int .i64) 3 u.order jN jV jK):
 QR 168 [(pp ff),(ii aj),(ii cell)] [(cl ff 178 [(ii u.most),(ii u.next),(.map (some jm)),(ll jN u.order jV)]),kS,jK] [] F (zg.R ff r):=by
 unfold zg.f at H;refine aH Tryz.func168 J J (λW=>rc T 2 (nc T J (λb4=>ro T 8 (kr (zi.R ff) [4] [0,0,0,1] J UP H (zi.c · jX kM) (λv1 H=>?_)))));rintro _ _ ⟨a5,H5,a6,n6,H6,s5,s6,rfl,rfl⟩;refine fz J (ro T 4 ?_)
 cases H;exact p1 T J [1,1,1,0] ⟨a5,H5,a6,n6,H6,s5,s6,J,J⟩ J
end
noncomputable section
def wz.f (w:Int) (h:Int) (most:Int):Option (Option eK):=(ph.f w h).bind λv1=>if(((!v1)||(decide (most<1)))||(decide (most>65536)))=true then(some none) else((zd.f most).bind λv2=>dA v2 ((uk.f (af (w*h))).bind λv3=>dA v3 (none) (λA1=>none)) (λlX=>(uk.f (af (w*h))).bind λv4=>dA v4 (none) (λxI=>some (some (eK.mk w h most lX xI)))))
def wz.R (r:(Option eK)):bm:=λu G=> ∃(u0:Value) (G0:List Hp),ZH r u0 G0/\u=u0/\G=G0
theorem wz.c (H:wz.f w h most=some r):
 QR 116 [(ii w),(ii h),(ii most)] [] [] F (wz.R r):=by
 unfold wz.f at H;refine aH Tryz.func116 J J (λW=>rc T 10 (k [] J C9 H (ph.c ·) (λv1 H=>ro T 2 (go T [5,6,7] 11 [0,1,2] 14 J J J J J J J (ro T 1 (go T [9,10,11] 15 [0,1,2] 18 J J J J J J J (ro T 2 (cb J H (λH=>?_) (λH=>?_)))))))))
 ·refine rc T 7 ?_
  cases H;exact p1 T J [0] ⟨_,_,⟨J,J⟩,J,J⟩ J
 refine rc T 8 (kr zd.R [] [] J ad' H (zd.c ·) (λv2 H=>?_));rintro _ _ ⟨_,_,O4,rfl,rfl⟩;rcases v2 with _ |lX
 ·replace H:=fx J H;obtain⟨rfl,rfl⟩:=O4;refine ro T 3 (kr uk.R [] [] J UL H (uk.c ·) (λv3 H=>?_));rintro _ _ ⟨_,_,O6,rfl,rfl⟩;rcases v3 with _ |A1
  ·replace H:=fx J H;obtain⟨rfl,rfl⟩:=O6;refine ro T 1 (nc T J (λb6=>ro T 4 ?_))
   cases H
  replace H:=fy J H;obtain⟨b4,a5,n5,H5,s5,rfl,rfl⟩:=O6;refine ro T 1 (nc T J (λb7=>ro T 4 ?_))
  cases H
 replace H:=fy J H;obtain⟨b1,a2,H2,a3,n3,H3,s2,s3,rfl,rfl⟩:=O4;refine ro T 3 (kr uk.R [] [] J UL H (uk.c ·) (λv4 H=>?_));rintro _ _ ⟨_,_,O8,rfl,rfl⟩;rcases v4 with _ |xI
 ·replace H:=fx J H;obtain⟨rfl,rfl⟩:=O8;refine ro T 1 (nc T J (λgm=>ro T 4 ?_))
  cases H
 replace H:=fy J H;obtain⟨b8,a9,n9,H9,s9,rfl,rfl⟩:=O8;refine ro T 1 (nc T J (λj7=>ro T 4 ?_))
 cases H;refine gM [6,1,1,1,1,1] J (p1 T J [1,0] ⟨_,_,⟨j7,(bo [(cl j7 146 [(ii w),(ii h),(ii most),(pp b1),(pp b8)]),(cl b1 178 [(ii lX.most),(ii lX.next),(.map (some a2)),(ll a3 lX.order n3)]),H2,H3,(cl b8 221 [(ll a9 xI.words n9),(ii xI.count)]),H9]),(show mm (eK.mk w h most lX xI) j7 (bo [(cl j7 146 [(ii w),(ii h),(ii most),(pp b1),(pp b8)]),(cl b1 178 [(ii lX.most),(ii lX.next),(.map (some a2)),(ll a3 lX.order n3)]),H2,H3,(cl b8 221 [(ll a9 xI.words n9),(ii xI.count)]),H9]) from⟨b1,a2,H2,a3,n3,H3,b8,a9,n9,H9,s2,s3,s9,J⟩),J,J⟩,J,J⟩ J)
def Bl.f (ai:eK) (cell:Int):Option Int:=(rK.f ai.floor cell).bind λv1=>some v1
theorem Bl.c (H:Bl.f ai cell=some r) (cZ:mm ai aY dx):
 QU 119 [(pp aY),(ii cell)] [dx] F (ii r):=by
 unfold Bl.f at H;refine aH Tryz.func119 J J (λW=>rc T 12 (fj J (rc T 3 ?_)));obtain⟨b3,a4,H4,a5,n5,H5,b6,a7,n7,H7,s4,s5,s7,cL⟩:=(λx=>x) cZ;refine bY 0 (congrArg some cL) (fz J (rc T 4 (lf T 1 J (ro T 1 (k [5,5] J Hu H (rK.c · s7) (λv1 H=>ro T 4 ?_))))))
 cases H;refine dH [1,1,1,1,1,1] J cL (p0 T J [1,0] J)
def wx.f (ai:eK) (cell:Int):Option Bool:=(gJ.f ai.w ai.h cell).bind λv1=>some (decide (v1≥0))
theorem wx.c (H:wx.f ai cell=some r) (cZ:mm ai aY dx):
 QU 123 [(pp aY),(ii cell)] [dx] F (bb r):=by
 unfold wx.f at H;refine aH Tryz.func123 J J (λW=>rc T 6 ?_);obtain⟨b3,a4,H4,a5,n5,H5,b6,a7,n7,H7,s4,s5,s7,cL⟩:=(λx=>x) cZ;refine bY 0 (congrArg some cL) (fz J (dy mix aA (au T J (au T J (au T J (cB T 1 J J J (au T J (au T J (au T J (cB T 1 J J J (au T J ?_)))))))))));obtain⟨v1,V1,H⟩:=fY H;refine sP J J J J J J tf J (gJ.c V1) (au T J (au T J (cU (rx T 2 ?_))))
 cases H;refine dH [1,1,1,1,1,1] J cL (p0 T J [1,0] J)
def wy.f (ai:eK) (aj:Int) (cell:Int) (goal:Int):Option Int:=if(aj==0)=true then(((wx.f ai cell).bind λv3=>if(!v3)=true then(some true) else((wx.f ai goal).bind λv4=>some (!v4))).bind λx1=>if x1=true then(some 7) else((rK.f ai.floor cell).bind λv5=>if(v5 !=(-1))=true then(some 10) else((xC.f ai.db).bind λv6=>if v6≥ai.most then(some 11) else(if(cell==goal)=true then(some 13) else(some 0))))) else(if(aj==1)=true then((rK.f ai.floor cell).bind λv7=>if(v7 !=(-1))=true then(some 10) else((xC.f ai.db).bind λv8=>if v8≥ai.most then(some 11) else(if(cell==goal)=true then(some 13) else(some 0)))) else(if(aj==2)=true then((xC.f ai.db).bind λv9=>if v9≥ai.most then(some 11) else(if(cell==goal)=true then(some 13) else(some 0))) else(if(aj==3)=true then(if(cell==goal)=true then(some 13) else(some 0)) else(some 0))))
theorem wy.c (H:wy.f ai aj cell goal=some r) (cZ:mm ai aY dx):
 QU 124 [(pp aY),(ii aj),(ii cell),(ii goal)] [dx] F (ii r):=by
 unfold wy.f at H;refine aH Tryz.func124 J J (λW=>rc T 28 (cb J H (λH=>?_) (λH=>?_)))
 ·refine rc T 5 (mq H [0,2,3] [1,0] (λz2 (x1:Bool)=>(x1=z2,[(27,(bb x1))],[])) J J (λz2 Z2 _=>?_) ?_)
  ·refine rc T 3 (k [0] J OJ Z2 (wx.c · cZ) (λv3 Z2=>ro T 2 (ab 22 J Z2 (λZ2=>?_) (λZ2=>?_))))
   ·refine ro T 7 (am _ [1,0] (oi Z2) J J)
   refine ro T 2 (k [0] J OJ Z2 (wx.c · cZ) (λv4 Z2=>ro T 4 (am _ [1,0] (oi Z2) J J)))
  rintro _ x1 rfl H;refine cb J H (λH=>?_) (λH=>?_)
  ·refine rc T 14 ?_
   cases H;exact p0 T J [1,0] J
  refine rc T 4 ?_;obtain⟨b3,a4,H4,a5,n5,H5,b6,a7,n7,H7,s4,s5,s7,cL⟩:=(λx=>x) cZ;refine bY 1 (congrArg some cL) (fz J (rc T 4 (lf T 1 J (ro T 1 (k [5,5] J Hu H (rK.c · s7) (λv5 H=>ro T 3 (cb J H (λH=>?_) (λH=>?_))))))))
  ·refine rc T 12 ?_
   cases H;refine dH [1,1,1,1,1,1] J cL (p0 T J [1,0] J)
  refine rc T 4 (dy mix aA (au T J (au T J (au T J (cB T 1 J J J ?_)))));obtain⟨v6,V9,H⟩:=fY H;refine xS [2,2,2] J J J J J J OL J (xC.c V9 s4 s5) (au T J (au T J (au T J (cB T 1 J J J (au T J (cU (rx T 1 (cd J H (λH=>?_) (λH=>?_)))))))))
  ·refine rc T 10 ?_
   cases H;refine dH [1,1,1,1,1,1] J cL (p0 T J [1,0] J)
  refine rc T 11 (cb J H (λH=>?_) (λH=>?_))
  ·refine rc T 9 ?_
   cases H;refine dH [1,1,1,1,1,1] J cL (p0 T J [1,0] J)
  refine rc T 11 ?_
  cases H;refine dH [1,1,1,1,1,1] J cL (p0 T J [1,0] J)
 refine rc T 9 (cb J H (λH=>?_) (λH=>?_))
 ·refine rc T 8 ?_;obtain⟨b9,cK,cu,dG,n11,cM,lE,dQ,n13,fe,bX,dr,dF,Hh⟩:=(λx=>x) cZ;refine bY 0 (congrArg some Hh) (fz J (rc T 4 (lf T 1 J (ro T 1 (k [5,5] J Hu H (rK.c · dF) (λv7 H=>ro T 3 (cb J H (λH=>?_) (λH=>?_))))))))
  ·refine rc T 12 ?_
   cases H;refine dH [1,1,1,1,1,1] J Hh (p0 T J [1,0] J)
  refine rc T 4 (dy mix aA (au T J (au T J (au T J (cB T 1 J J J ?_)))));obtain⟨v8,RK,H⟩:=fY H;refine xS [2,2,2] J J J J J J OL J (xC.c RK bX dr) (au T J (au T J (au T J (cB T 1 J J J (au T J (cU (rx T 1 (cd J H (λH=>?_) (λH=>?_)))))))))
  ·refine rc T 10 ?_
   cases H;refine dH [1,1,1,1,1,1] J Hh (p0 T J [1,0] J)
  refine rc T 11 (cb J H (λH=>?_) (λH=>?_))
  ·refine rc T 9 ?_
   cases H;refine dH [1,1,1,1,1,1] J Hh (p0 T J [1,0] J)
  refine rc T 11 ?_
  cases H;refine dH [1,1,1,1,1,1] J Hh (p0 T J [1,0] J)
 refine rc T 9 (cb J H (λH=>?_) (λH=>?_))
 ·refine rc T 10 ?_;obtain⟨pw,kD,gB,a17,n17,eZ,rF,mY,n19,lB,gw,fO,iz,E6⟩:=(λx=>x) cZ;refine bY 0 (congrArg some E6) (fz J (dy mix aA (au T J (au T J (au T J (cB T 1 J J J ?_))))));obtain⟨v9,JZ,H⟩:=fY H;refine xS [2,2,2] J J J J J J OL J (xC.c JZ gw fO) (au T J (au T J (au T J (cB T 1 J J J (au T J (cU (rx T 1 (cd J H (λH=>?_) (λH=>?_)))))))))
  ·refine rc T 10 ?_
   cases H;refine dH [1,1,1,1,1,1] J E6 (p0 T J [1,0] J)
  refine rc T 11 (cb J H (λH=>?_) (λH=>?_))
  ·refine rc T 9 ?_
   cases H;refine dH [1,1,1,1,1,1] J E6 (p0 T J [1,0] J)
  refine rc T 11 ?_
  cases H;refine dH [1,1,1,1,1,1] J E6 (p0 T J [1,0] J)
 refine rc T 8 (cb J H (λH=>?_) (λH=>?_))
 ·refine rc T 18 (cb J H (λH=>?_) (λH=>?_))
  ·refine rc T 9 ?_
   cases H;exact p0 T J [0,0] J
  refine rc T 11 ?_
  cases H;exact p0 T J [0,0] J
 refine rc T 19 ?_
 cases H;exact p0 T J [0,0] J
def x_.f (ai:eK) (cell:Int) (goal:Int):Option (Int×Int×eK):=(wy.f ai 0 cell goal).bind λv1=>if(v1 !=0)=true then(some ((-1),v1,ai)) else((xB.f ai.db cell goal).bind λv2=>(ui.f ai.floor cell v2.1).bind λv3=>some (v2.1,0,(eK.mk ai.w ai.h ai.most v2.2.2 v3.2)))
def x_.R (oD:Nat) (r:(Int×Int×eK)):bm:=λu G=> ∃(H0:Hp),mm r.2.2 oD H0/\u=(.tuple #[(ii r.1),(ii r.2.1)])/\G=[H0]
theorem x_.c (H:x_.f ai cell goal=some r) (cZ:mm ai aY dx):
 QR 121 [(pp aY),(ii cell),(ii goal)] [dx] [] F (x_.R aY r):=by
 unfold x_.f at H;refine aH Tryz.func121 J J (λW=>rc T 13 (fj J (rc T 8 (k [0] J UC H (wy.c · cZ) (λv1 H=>ro T 9 (cb J H (λH=>?_) (λH=>?_)))))))
 ·refine rc T 9 ?_
  cases H;exact p1 T J [0,0] ⟨dx,cZ,J,J⟩ J
 refine rc T 3 ?_;obtain⟨b3,a4,H4,a5,n5,H5,b6,a7,n7,H7,s4,s5,s7,cL⟩:=(λx=>x) cZ;refine bY 0 (congrArg some cL) (fz J (rc T 4 (lf T 1 J (ro T 2 (kr (xB.R b3) [] [2,2,2] J aeb H (xB.c · s4 s5) (λv2 H=>?_))))));rintro _ _ ⟨a8,H8,a9,n9,H9,s8,s9,rfl,rfl⟩;refine fz J (ro T 11 (lf T 1 J (ro T 2 (kr (ui.R b6) [] [2,2] J UM H (ui.c · s7) (λv3 H=>?_)))));rintro _ _ ⟨cK,n10,cu,bX,rfl,rfl⟩;refine fz J (ro T 10 ?_)
 cases H;refine gM [1,1,1,1,1,1] J (p1 T J [1,0] ⟨(bo [(cl aY 146 [(ii ai.w),(ii ai.h),(ii ai.most),(pp b3),(pp b6)]),(cl b3 178 [(ii v2.2.2.most),(ii v2.2.2.next),(.map (some a8)),(ll a9 v2.2.2.order n9)]),H8,H9,(cl b6 221 [(ll cK v3.2.words n10),(ii v3.2.count)]),cu]),(show mm (eK.mk ai.w ai.h ai.most v2.2.2 v3.2) aY (bo [(cl aY 146 [(ii ai.w),(ii ai.h),(ii ai.most),(pp b3),(pp b6)]),(cl b3 178 [(ii v2.2.2.most),(ii v2.2.2.next),(.map (some a8)),(ll a9 v2.2.2.order n9)]),H8,H9,(cl b6 221 [(ll cK v3.2.words n10),(ii v3.2.count)]),cu]) from⟨b3,a8,H8,a9,n9,H9,b6,cK,n10,cu,s8,s9,bX,J⟩),J,J⟩ J)
def G2.f (aj:Int) (goal:Int):Option Int:=some 1
theorem G2.c (H:G2.f aj goal=some r):
 QU 89 [(.pointer none),(ii aj),(ii goal)] [] F (ii r):=by
 unfold G2.f at H;refine aH Tryz.func89 J J (λW=>rc T 12 (oA J (rc T 7 ?_)))
 cases H;exact p0 T J [0] J
def qI.f (ai:eK) (u:aI):Option eK:=(zf.f ai.db u.Id).bind λv1=>(uj.f ai.floor u.Cell).bind λv2=>some (eK.mk ai.w ai.h ai.most v1.2 v2.2)
def qI.R (oD:Nat) (r:eK):bm:=λu G=> ∃(H0:Hp),mm r oD H0/\u=(.tuple #[])/\G=[H0]
theorem qI.c (H:qI.f ai u=some r) (cZ:mm ai aY dx):
 QR 125 [(pp aY),(.agg #[(ii u.Id),(ii u.Cell),(ii u.Goal)])] [dx] [] F (qI.R aY r):=by
 unfold qI.f at H;refine aH Tryz.func125 J J (λW=>rc T 2 (nc T J (λb2=>ro T 3 ?_)));obtain⟨b4,a5,H5,a6,n6,H6,b7,a8,n8,H8,s5,s6,s8,dI⟩:=(λx=>x) cZ;refine bY 0 (congrArg some dI) (fz J (ks [0,3] J (fz J (rz [6] mix (bU bT) (λhg pf=>ha T 4 [0,1,2] sz hg pf J (al T 3 2 sz hg pf J J J (ha T 2 [4] sz hg pf J (al T 5 1 sz hg pf J J J (ao 6 (kR (zf.R b4) [] [3,3,3] J aec H (zf.c · s5 s6) (λv1 H=>?_)))))))))));rintro _ _ ⟨a9,H9,cK,n10,cu,s9,bX,rfl,rfl⟩;refine fz J (an sl (ae (rx T 1 (ks [0,3] J (fz J (rz [6] mix (bU bT) (λhg pf=>ha T 4 [0,1,2] sz hg pf J (al T 3 2 sz hg pf J J J (ha T 2 [4] sz hg pf J (al T 5 1 sz hg pf J J J (ao 6 (kR (uj.R b7) [] [3,3] J UO H (uj.c · s8) (λv2 H=>?_)))))))))))));rintro _ _ ⟨dG,n11,cM,dr,rfl,rfl⟩;refine fz J (an sl (ae (jB ?_)))
 cases H;refine gM [2,2,2,2,2,2] J (p1 T J [2,0] ⟨(bo [(cl aY 146 [(ii ai.w),(ii ai.h),(ii ai.most),(pp b4),(pp b7)]),(cl b4 178 [(ii v1.2.most),(ii v1.2.next),(.map (some a9)),(ll cK v1.2.order n10)]),H9,cu,(cl b7 221 [(ll dG v2.2.words n11),(ii v2.2.count)]),cM]),(show mm (eK.mk ai.w ai.h ai.most v1.2 v2.2) aY (bo [(cl aY 146 [(ii ai.w),(ii ai.h),(ii ai.most),(pp b4),(pp b7)]),(cl b4 178 [(ii v1.2.most),(ii v1.2.next),(.map (some a9)),(ll cK v1.2.order n10)]),H9,cu,(cl b7 221 [(ll dG v2.2.words n11),(ii v2.2.count)]),cM]) from⟨b4,a9,H9,cK,n10,cu,b7,dG,n11,cM,s9,bX,dr,J⟩),J,J⟩ J)
def xZ.f (ai:eK) (aj:Int) (goal:Int):Option (Int×eK):=(pK.f ai.db aj).bind λv1=>if(!v1.2)=true then(some (12,ai)) else((wx.f ai goal).bind λv2=>if(!v2)=true then(some (7,ai)) else((wy.f ai 3 v1.1.Cell goal).bind λv3=>if(v3 !=0)=true then((qI.f ai v1.1).bind λv4=>some (v3,v4)) else((ze.f ai.db aj goal).bind λv5=>some (0,(eK.mk ai.w ai.h ai.most v5.2 ai.floor)))))
def xZ.R (oD:Nat) (r:(Int×eK)):bm:=λu G=> ∃(H0:Hp),mm r.2 oD H0/\u=(ii r.1)/\G=[H0]
theorem xZ.c (H:xZ.f ai aj goal=some r) (cZ:mm ai aY dx):
 QR 89 [(pp aY),(ii aj),(ii goal)] [dx] [] F (xZ.R aY r):=by
 unfold xZ.f at H;refine aH Tryz.func89 J J (λW=>rc T 12 (fj J (rc T 3 ?_)));obtain⟨b3,a4,H4,a5,n5,H5,b6,a7,n7,H7,s4,s5,s7,cL⟩:=(λx=>x) cZ;refine bY 0 (congrArg some cL) (fz J (rc T 4 (lf T 1 J (ro T 1 (k [2,2,2] J C6 H (pK.c · s4 s5) (λv1 H=>ro T 3 (nc T J (λb8=>sg T 7 J (ro T 12 (cb J H (λH=>?_) (λH=>?_)))))))))))
 ·refine rc T 8 ?_
  cases H;refine dH [1,1,1,1,1,1] J cL (p1 T J [2,0] ⟨dx,cZ,J,J⟩ J)
 refine rc T 4 ?_;obtain⟨v2,V3,H⟩:=fY H;refine ba (J' (As:=[(cl aY 146 [(ii ai.w),(ii ai.h),(ii ai.most),(pp b3),(pp b6)]),(cl b3 178 [(ii ai.db.most),(ii ai.db.next),(.map (some a4)),(ll a5 ai.db.order n5)]),H4,H5,(cl b6 221 [(ll a7 ai.floor.words n7),(ii ai.floor.count)]),H7]) [1,1,1,1,1,1] J J J J OJ J J (Km (A:=[dx]) (by simp only[cL,wa,v_,wb,oq,pn]) (wx.c V3 cZ)) (ro T 4 (cb J H (λH=>?_) (λH=>?_))))
 ·refine rc T 8 ?_
  cases H;refine dH [1,1,1,1,1,1] J cL (p1 T J [2,0] ⟨dx,cZ,J,J⟩ J)
 refine rc T 8 (lf T 7 J (ro T 1 ?_));obtain⟨v3,V5,H⟩:=fY H;refine ba (J' (As:=[(cl aY 146 [(ii ai.w),(ii ai.h),(ii ai.most),(pp b3),(pp b6)]),(cl b3 178 [(ii ai.db.most),(ii ai.db.next),(.map (some a4)),(ll a5 ai.db.order n5)]),H4,H5,(cl b6 221 [(ll a7 ai.floor.words n7),(ii ai.floor.count)]),H7]) [1,1,1,1,1,1] J J J J UC J J (Km (A:=[dx]) (by simp only[cL,wa,v_,wb,oq,pn]) (wy.c V5 cZ)) (ro T 9 (cb J H (λH=>?_) (λH=>?_))))
 ·refine rc T 3 (lm T 7 J (dH [1,1,1,1,1,1] J cL (kr (qI.R aY) [] [2] J OK H (qI.c · cZ) (λv4 H=>?_))));rintro _ _ ⟨H9,s9,rfl,rfl⟩;refine fz J (ro T 10 ?_)
  cases H;exact p1 T J [2,0] ⟨H9,s9,J,J⟩ J
 refine rc T 7 (lf T 1 J (ro T 2 (kr (ze.R b3) [] [2,2,2] J ad3 H (ze.c · s4 s5) (λv5 H=>?_))));rintro _ _ ⟨cK,cu,dG,n11,cM,bX,dr,rfl,rfl⟩;refine fz J (ro T 8 ?_)
 cases H;refine gM [1,4,4,4,1,1] J (p1 T J [2,0] ⟨(bo [(cl aY 146 [(ii ai.w),(ii ai.h),(ii ai.most),(pp b3),(pp b6)]),(cl b3 178 [(ii v5.2.most),(ii v5.2.next),(.map (some cK)),(ll dG v5.2.order n11)]),cu,cM,(cl b6 221 [(ll a7 ai.floor.words n7),(ii ai.floor.count)]),H7]),(show mm (eK.mk ai.w ai.h ai.most v5.2 ai.floor) aY (bo [(cl aY 146 [(ii ai.w),(ii ai.h),(ii ai.most),(pp b3),(pp b6)]),(cl b3 178 [(ii v5.2.most),(ii v5.2.next),(.map (some cK)),(ll dG v5.2.order n11)]),cu,cM,(cl b6 221 [(ll a7 ai.floor.words n7),(ii ai.floor.count)]),H7]) from⟨b3,cK,cu,dG,n11,cM,b6,a7,n7,H7,bX,dr,s7,J⟩),J,J⟩ J)
def G1.f (aj:Int):Option Int:=some 1
theorem G1.c (H:G1.f aj=some r):
 QU 90 [(.pointer none),(ii aj)] [] F (ii r):=by
 unfold G1.f at H;refine aH Tryz.func90 J J (λW=>rc T 12 (oA J (rc T 7 ?_)))
 cases H;exact p0 T J [0] J
def xY.f (ai:eK) (aj:Int):Option (Int×eK):=(pK.f ai.db aj).bind λv1=>if(!v1.2)=true then(some (12,ai)) else((qI.f ai v1.1).bind λv2=>some (0,v2))
def xY.R (oD:Nat) (r:(Int×eK)):bm:=λu G=> ∃(H0:Hp),mm r.2 oD H0/\u=(ii r.1)/\G=[H0]
theorem xY.c (H:xY.f ai aj=some r) (cZ:mm ai aY dx):
 QR 90 [(pp aY),(ii aj)] [dx] [] F (xY.R aY r):=by
 unfold xY.f at H;refine aH Tryz.func90 J J (λW=>rc T 12 (fj J (rc T 3 ?_)));obtain⟨b3,a4,H4,a5,n5,H5,b6,a7,n7,H7,s4,s5,s7,cL⟩:=(λx=>x) cZ;refine bY 0 (congrArg some cL) (fz J (rc T 4 (lf T 1 J (ro T 1 (k [2,2,2] J C6 H (pK.c · s4 s5) (λv1 H=>ro T 3 (nc T J (λb8=>sg T 7 J (ro T 10 (cb J H (λH=>?_) (λH=>?_)))))))))))
 ·refine rc T 7 ?_
  cases H;refine dH [1,1,1,1,1,1] J cL (p1 T J [2,0] ⟨dx,cZ,J,J⟩ J)
 refine rc T 5 (lm T 7 J (dH [1,1,1,1,1,1] J cL (kr (qI.R aY) [] [2] J OK H (qI.c · cZ) (λv2 H=>?_))));rintro _ _ ⟨H9,s9,rfl,rfl⟩;refine fz J (ro T 8 ?_)
 cases H;exact p1 T J [2,0] ⟨H9,s9,J,J⟩ J
def qH.f (ai:eK):Option (List aI):=(pJ.f ai.db).bind λv1=>some v1
def qH.R (r:(List aI)):bm:=λu G=> ∃a0 n0 H0,ak mc 67 r a0 n0 H0/\u=(ll a0 r n0)/\G=[H0]
theorem qH.c (H:qH.f ai=some r) (cZ:mm ai aY dx):
 QR 54 [(pp aY)] [dx] [dx] F (qH.R r):=by
 unfold qH.f at H;refine aH Tryz.func54 J J (λW=>rc T 12 (fj J (rc T 3 ?_)));obtain⟨b3,a4,H4,a5,n5,H5,b6,a7,n7,H7,s4,s5,s7,cL⟩:=(λx=>x) cZ;refine bY 0 (congrArg some cL) (fz J (rc T 4 (lf T 1 J (kr pJ.R [2,2,2] [2,2,2] J afJ H (pJ.c · s4 s5) (λv1 H=>?_)))));rintro _ _ ⟨a8,n8,H8,s8,rfl,rfl⟩;refine fz J (ro T 4 ?_)
 cases H;refine dH [1,4,4,4,1,1] J cL (p1 T J [1,1,0] ⟨a8,n8,H8,s8,J,J⟩ J)
def oG.l0:Nat->((List aI)×(List fw)×(List Int)×Int)->eK->Int->Option ((List fw)×(List Int)×Int×eK)
 |0,_,_,_=>none
 |k7+1,v2,x5,x6=>if x6<(aa v2.2.1:Int) then(if(0<=x6/\x6<(aa v2.2.1:Int)) then(((pK.f x5.db ((rd v2.2.1 x6).Id)).bind λv12=>some (v12.1.Id,v12.1.Cell,v12.1.Goal)).bind λ(x8,x9,aN)=>if((rd v2.2.1 x6).To==aN)=true then((qI.f x5 (aI.mk x8 x9 aN)).bind λeN=>oG.l0 k7 v2 eN (af (x6+1))) else((yd.f x5.floor x9 ((rd v2.2.1 x6).To)).bind λdC=>(zg.f x5.db ((rd v2.2.1 x6).Id) ((rd v2.2.1 x6).To)).bind λcP=>oG.l0 k7 v2 (eK.mk x5.w x5.h x5.most cP.2 dC.2) (af (x6+1)))) else none) else(some (v2.2.1,v2.2.2.1,0,x5))
def oG.f (ai:eK) (aO:(List Int)):Option ((List fw)×(List Int)×Int×eK):=(qH.f ai).bind λv1=>(jU.f ai.w ai.h v1 aO).bind λv2=>if(v2.2.2.2 !=0)=true then(some ([],[],v2.2.2.2,ai)) else(oG.l0 fuel v2 ai 0)
def oG.R (oD:Nat) (r:((List fw)×(List Int)×Int×eK)):bm:=λu G=> ∃(a0 n0 H0:_) (a1 n1 H1:_) (H2:Hp),ak jT 94 r.1 a0 n0 H0/\ak (Fl.int .i64) 3 r.2.1 a1 n1 H1/\mm r.2.2.2 oD H2/\u=(.tuple #[(ll a0 r.1 n0),(ll a1 r.2.1 n1),(ii r.2.2.1)])/\G=[H0,H1,H2]
theorem oG.c (H:oG.f ai aO=some r) (cZ:mm ai aY dx) (Hn:aU (Fl.int .i64) aO M8 F) (NJ:aa aO<=P_):
 QR 129 [(pp aY),(ll M8 aO P_)] [dx] [] F (oG.R aY r):=by
 unfold oG.f at H;refine aH Tryz.func129 J J (λW=>rc T 14 (fj J (rc T 3 ?_)));obtain⟨b3,a4,H4,a5,n5,H5,b6,a7,n7,H7,s4,s5,s7,cL⟩:=(λx=>x) cZ;refine bY 0 (congrArg some cL) (fz J (fz J (rg [] [0,0,0,0,0,0,0] mix (bU bT) (λhg pf=>ha T 17 [0,1,2] sz hg pf J (al T 3 1 sz hg pf J J J (ha T 13 [4,5,6] sz hg pf J (al T 7 1 sz hg pf J J J (ha T 10 [8,10] sz hg pf J (ao 9 ?_)))))))));obtain⟨v1,V1,H⟩:=fY H;refine GL (As:=[(cl aY 146 [(ii ai.w),(ii ai.h),(ii ai.most),(pp b3),(pp b6)]),(cl b3 178 [(ii ai.db.most),(ii ai.db.next),(.map (some a4)),(ll a5 ai.db.order n5)]),H4,H5,(cl b6 221 [(ll a7 ai.floor.words n7),(ii ai.floor.count)]),H7]) (qH.R v1) [(cl aY 146 [(ii ai.w),(ii ai.h),(ii ai.most),(pp b3),(pp b6)]),(cl b3 178 [(ii ai.db.most),(ii ai.db.next),(.map (some a4)),(ll a5 ai.db.order n5)]),H4,H5,(cl b6 221 [(ll a7 ai.floor.words n7),(ii ai.floor.count)]),H7] [1,1,1,1,1,1] J J J J K6 J J (Kn (A:=[dx]) (A2:=[dx]) (by simp only[cL,wa,v_,wb,oq,pn]) (by simp only[cL,wa,v_,wb,oq,pn]) (qH.c V1 cZ)) ?_
 rintro _ _ ⟨a8,n8,H8,s8,rfl,rfl⟩;refine fz J (an (so [0,1,1,1,1,1,1]) (ao 11 (kR jU.R [] [] J aef H (jU.c · (oO s8 1) s8.ck (rO Hn 0) NJ) (λv2 H=>?_))));rintro _ _ ⟨a9,n9,H9,cK,n10,cu,dG,n11,cM,s9,bX,dr,rfl,rfl⟩;refine fz J (an (so [0,1,1,1,1,1,1]) (ha T 0 [12,13,14,15,16,17,18,19] (so [0,1,1,1,1,1,1]) hg pf J (ae (rx T 8 (cb J H (λH=>?_) (λH=>?_))))))
 ·refine rc T 10 ?_
  cases H;refine dH [2,2,2,2,2,2] J cL (bC (bC (p1 T J [6,6,5,0] ⟨none,0,[],none,0,[],dx,ak.nil,ak.nil,cZ,J,J⟩ J)))
 refine rc T 11 (dH [2,2,2,2,2,2] J cL (lq [0,4,5,33,34] [0,2,2] (λ(⟨k7,x5,x6,dT⟩:Nat×eK×Int×Hp)=>(oG.l0 k7 v2 x5 x6=some r/\mm x5 aY dT,[(35,(ii x6))],[dT])) J J (fuel,ai,0,dx) [0,2,2,2] ⟨H,cZ⟩ J J ?_));rintro k7 ⟨x5,x6,dT⟩ ⟨Z4,eG⟩;rw[oG.l0] at Z4;refine rc T 6 (cd J Z4 (λZ4=>?_) (λZ4=>?_))
 ·refine rc T 6 ?_;obtain⟨c6,Z4⟩:=aF Z4;obtain⟨q16,o16,G3⟩:=bX.r.addr c6.1 c6.2;refine ix T J G3 c6 (bz J (gp T (cs:=[(ii (rd v2.2.1 x6).Id),(ii (rd v2.2.1 x6).To)]) J J J J J J (iI (k:=jT) (oO bX 1) G3 c6 J)) (nc T J (λCL=>sg T 4 J (ro T 2 (mq Z4 [0,4,5,8,33,34,35] [0,2,0,0,0] (λmj (⟨x8,x9,aN,rF⟩:Int×Int×Int×Nat)=>((x8,x9,aN)=mj,[(9,(pp rF))],[(cl rF 67 [(ii x8),(ii x9),(ii aN)])])) J J (λmj Z7 _=>?_) ?_)))))
  ·obtain⟨Kh,a21,lY,a22,n22,nI,b23,a24,n24,sF,kt,jd,mL,Hg⟩:=(λx=>x) eG;refine bY 3 (congrArg some Hg) (fz J (ks [0,4,5,8,33,34,35] J (fz J (rz [] mix (bU bT) (λhg pf=>ha T 10 [0,1,2] sz hg pf J (al T 3 4 sz hg pf J J J (ha T 8 [4] sz hg pf J (al T 5 3 sz hg pf J J J (gV 6 10 ?_ ?_)))))))))
   ·refine kh [5,5,5] J C6 Z7 (pK.c · kt jd) (λv12 Z7=>an sz (ha T 3 [7,8,9] sz hg pf J (ao 10 (nw T J (λlG=>an (so [0,0,0,0,0,0,0,0,0,0]) (ao 11 (sf T 10 J (an (so [0,0,0,0,0,0,0,0,0,0]) (ha T 0 [12] (so [0,0,0,0,0,0,0,0,0,0]) hg pf J (ae (rx T 1 (dH [4,4,4,4,4,4] J Hg (am (_,_,_,_) [0,4,0,0,0,0] (oi Z7) J J)))))))))))))
   refine nw T J (λlH=>an (so [0,0,0,0,0,0,0,0,0,0]) (ao 6 (kh [5,5,5] J C6 Z7 (pK.c · kt jd) (λiB Z7=>an (so [0,0,0,0,0,0,0,0,0,0]) (ha T 2 [7,8,9] (so [0,0,0,0,0,0,0,0,0,0]) hg pf J (ao 11 (sf T 10 J (an (so [0,0,0,0,0,0,0,0,0,0]) (ha T 0 [12] (so [0,0,0,0,0,0,0,0,0,0]) hg pf J (ae (rx T 1 (dH [4,4,4,4,4,4] J Hg (am (_,_,_,_) [0,4,0,0,0,0] (oi Z7) J J)))))))))))))
  rintro _ ⟨x8,x9,aN,rF⟩ rfl Z4;refine rc T 4 (lf T 4 J (ro T 1 (lf T 5 J (ro T 3 (cb J Z4 (λZ4=>?_) (λZ4=>?_))))))
  ·refine rc T 3 (lm T 5 J (kr (qI.R aY) [] [1] J OK Z4 (qI.c (u:=(aI.mk x8 x9 aN)) · eG) (λeN Z4=>?_)));rintro _ _ ⟨Gg,xm,rfl,rfl⟩;refine fz J (ro T 11 (ar (_,_,_) [0,0,0,2] ⟨Z4,xm⟩ J J))
  refine rc T 3 ?_;obtain⟨Bb,CC,sH,a31,n31,Cr,xU,a33,n33,JN,qo,AD,xn,KV⟩:=(λx=>x) eG;refine bY 1 (congrArg some KV) (fz J (fz J (rz [8] mix (bU bT) (λhg pf=>ha T 6 [0,1,2] sz hg pf J (al T 3 5 sz hg pf J J J (ha T 4 [4] sz hg pf J (al T 5 4 sz hg pf J J J (ha T 2 [6] sz hg pf J (al T 7 3 sz hg pf J J J (ao 8 (kR (yd.R xU) [] [9,9] J aeg Z4 (yd.c · xn) (λdC Z4=>?_))))))))))));rintro _ _ ⟨Gu,n34,vT,yV,rfl,rfl⟩;refine fz J (an sl (ae (rx T 1 (ke [0,4,5,8,33,34,35] [0,0,0,0,1,1,1,1,1,1] J J (fz J (rz [8] mix (bU bT) (λhg pf=>ha T 6 [0,1,2] sz hg pf J (al T 3 4 sz hg pf J J J (ha T 4 [4] sz hg pf J (al T 5 3 sz hg pf J J J (ha T 2 [6] sz hg pf J (al T 7 3 sz hg pf J J J (ao 8 (kR (zg.R Bb) [] [5,5,5] J aeh Z4 (zg.c · qo AD) (λcP Z4=>?_)))))))))))))));rintro _ _ ⟨a35,JO,A',n36,A3,Mj,D8,rfl,rfl⟩;refine fz J (an sl (ae (rx T 7 (gM [4,6,6,6,4,4] J (ar (_,_,_) [0,0,0,1] ⟨Z4,(show mm (eK.mk x5.w x5.h x5.most cP.2 dC.2) aY (bo [(cl aY 146 [(ii x5.w),(ii x5.h),(ii x5.most),(pp Bb),(pp xU)]),(cl Bb 178 [(ii cP.2.most),(ii cP.2.next),(.map (some a35)),(ll A' cP.2.order n36)]),JO,A3,(cl xU 221 [(ll Gu dC.2.words n34),(ii dC.2.count)]),vT]) from⟨Bb,a35,JO,A',n36,A3,xU,Gu,n34,vT,Mj,D8,yV,J⟩)⟩ J J)))))
 refine rc T 15 ?_
 cases Z4;exact p1 T J [1,1,1,0] ⟨cK,n10,cu,dG,n11,cM,dT,bX,dr,eG,J,J⟩ J
def Bk.f:Option (List aI):=some []
def Bk.R (r:(List aI)):bm:=λu G=> ∃a0 n0 H0,ak mc 67 r a0 n0 H0/\u=(ll a0 r n0)/\G=[H0]
theorem Bk.c (H:Bk.f=some r):
 QR 54 [(.pointer none)] [] [] F (Bk.R r):=by
 unfold Bk.f at H;refine aH Tryz.func54 J J (λW=>rc T 12 (oA J (rc T 7 ?_)))
 cases H;refine bC (p1 T J [1,0] ⟨none,0,[],ak.nil,J,J⟩ J)
end
noncomputable section
def jq.f (g:bx) (cell:Int):Option Int:=(if cell<0 then(some true) else(some (decide (cell≥(aa g.m.C:Int))))).bind λx1=>if x1=true then(some 0) else(if(0<=cell/\cell<(aa g.m.C:Int)) then(some (af (rd g.m.C cell))) else none)
theorem jq.c (H:jq.f g cell=some r) (fW:iU g fD gC):
 QU 141 [(pp fD),(ii cell)] [gC] F (ii r):=by
 unfold jq.f at H;refine aH Tryz.func141 J J (λW=>rc T 6 (mq H [0,1] [1,0] (λz2 (x1:Bool)=>(x1=z2,[(20,(bb x1))],[])) J J (λz2 Z1 _=>?_) ?_))
 ·obtain⟨a3,n3,H3,a4,n4,H4,s3,s4,cL⟩:=(λx=>x) fW;refine bY 0 (congrArg some cL) (fz J (rc T 8 (ad 11 J Z1 (λZ1=>?_) (λZ1=>?_))))
  ·refine ro T 11 (dH [1,1,1] J cL (am _ [0,0] (oi Z1) J J))
  refine ro T 5 (lf T 1 J (ro T 5 (dH [1,1,1] J cL (am _ [0,0] (oi Z1) J J))))
 rintro _ x1 rfl H;refine cb J H (λH=>?_) (λH=>?_)
 ·refine rc T 7 ?_
  cases H;exact p0 T J [1,0] J
 refine rc T 3 ?_;obtain⟨a6,n6,H6,a7,n7,H7,s6,s7,sZ⟩:=(λx=>x) fW;refine bY 1 (congrArg some sZ) (fz J (rc T 5 (lf T 1 J (ro T 1 ?_))));obtain⟨c4,H⟩:=aF H;obtain⟨q8,o8,e8⟩:=s6.r.addr c4.1 c4.2;refine ix T J e8 c4 (le T 0 (oO s6 2) e8 c4 J J (ro T 5 ?_))
 cases H;refine dH [1,1,1] J sZ (p0 T J [1,0] J)
def He.f:Option Int:=some 0
theorem He.c (H:He.f=some r):
 QU 136 [(.pointer none)] [] F (ii r):=by
 unfold He.f at H;refine aH Tryz.func136 J J (λW=>rc T 12 (oA J (rc T 7 ?_)))
 cases H;exact p0 T J [0] J
def mC.l0:Nat->aJ->Int->(List Int)->(Int×Int)->List Int->Int->Option (Option bx)
 |0,_,_,_,_,_,_=>none
 |k8+1,m,bS,v2,v3,x6,x7=>if x7<(aa (cy (ax (af (v3.1*v3.2))) (0:Int)):Int) then(if(0<=x7/\x7<(aa x6:Int)) then(mC.l0 k8 m bS v2 v3 (aG x6 (ax x7) (af (bS+1))) (af (x7+1))) else none) else(some (some (bx.mk (aJ.mk m.W m.H v2) (af (bS+1)) x6)))
def mC.f (m:aJ) (bS:Int):Option (Option bx):=(zD.f m).bind λv1=>if(((!v1)||(decide (bS<0)))||(decide (bS>4611686018427387904)))=true then(some none) else((o_.f m.C).bind λv2=>(rp.f m.W m.H).bind λv3=>if(0<=(af (v3.1*v3.2))/\(af (v3.1*v3.2))<=1099511627776) then(mC.l0 fuel m bS v2 v3 (cy (ax (af (v3.1*v3.2))) (0:Int)) 0) else none)
def mC.R (r:(Option bx)):bm:=λu G=> ∃(u0:Value) (G0:List Hp),ZJ r u0 G0/\u=u0/\G=G0
theorem mC.c (H:mC.f m bS=some r) (rL:aU (Fl.int .u8) m.C oy F) (ud:aa m.C<=nX):
 QR 149 [(.agg #[(ii m.W),(ii m.H),(ll oy m.C nX)]),(ii bS)] [] [] F (mC.R r):=by
 unfold mC.f at H;refine aH Tryz.func149 J J (λW=>rc T 2 (nc T J (λb1=>ro T 6 (lm T 1 J (k [] J UH H (zD.c · (rO rL 0) ud) (λv1 H=>ro T 2 (go T [4,5,6] 12 [1,2] 15 J J J J J J J (ro T 1 (go T [8,9,10] 16 [1,2] 19 J J J J J J J (ro T 2 (cb J H (λH=>?_) (λH=>?_))))))))))))
 ·refine rc T 7 ?_
  cases H;exact p1 T J [0] ⟨_,_,⟨J,J⟩,J,J⟩ J
 refine rc T 5 (lf T 1 J (kr o_.R [] [] J OE H (o_.c · (rO rL 0) ud) (λv2 H=>?_)));rintro _ _ ⟨a2,n2,H2,s2,rfl,rfl⟩;refine fz J (ro T 1 (sg T 1 J (ro T 5 (lf T 1 J (ro T 1 (lf T 1 J (k [] J HB H (rp.c ·) (λv3 H=>ro T 8 (ks [1,2,5,6] J (fz J (rg [] [0,0,0] mix (bU bT) (λhg pf=>av 0 sz hg pf J (gA T 1 J J J J J J J) (ha T 4 [1,2,3,4,5] sz hg pf J (ao 6 ?_))))))))))))));obtain⟨c5,H⟩:=aF H;refine zB (k:=(Fl.int .i64)) T (0:Int) J J J J J J J J c5 J (λa3 n3 H3 s3=>an (so [0,0,0]) (ha T 2 [7] (so [0,0,0]) hg pf J (ao 8 (nw T J (λb4=>an (so [0,0,0]) (ha T 0 [9] (so [0,0,0]) hg pf J (ae (rx T 7 (lf T 4 J (ro T 5 (lq [7,45] [0,1] (λ(⟨k8,x6,x7,a6,n6,H6⟩:Nat×List Int×Int×Option Addr×Nat×Hp)=>(mC.l0 k8 m bS v2 v3 x6 x7=some r/\ak (Fl.int .i64) 2 x6 a6 n6 H6,[(46,(ii x7))],[(cl b4 167 [(ii m.W),(ii m.H),(ll a2 v2 n2),(ii (af (bS+1))),(ll a6 x6 n6)]),H6])) J J (fuel,(cy (ax (af (v3.1*v3.2))) (0:Int)),0,a3,n3,H3) [0,1,2,1] ⟨H,s3⟩ J J ?_)))))))))));rintro k8 ⟨x6,x7,a6,n6,H6⟩ ⟨Z6,s6⟩;rw[mC.l0] at Z6;refine rc T 6 (cd J Z6 (λZ6=>?_) (λZ6=>?_))
 ·refine rc T 10 (fz J (rz [10] mix (bU bT) (λhg pf=>ha T 8 [0,1,2] sz hg pf J (al T 3 2 sz hg pf J J J (ha T 3 [4,5,6,7] sz hg pf J (al T 8 2 sz hg pf J J J ?_))))));obtain⟨c8,Z6⟩:=aF Z6;obtain⟨q7,o7,e7⟩:=s6.r.addr c8.1 c8.2;refine av 9 sz hg pf J (cV T J J J J J e7 c8.1 c8.2) (ao 10 (lD (k:=(Fl.int .i64)) T 3 0 (af (bS+1)) J J J J J J s6 e7 c8 J J J (λH8 s8=>kg [7,8,45,46,49,50,51,53,54,55,56,57,58] [0,0,1] [0,0,1,0] [(52,(ll a6 (aG x6 (ax x7) (af (bS+1))) n6))] [(cl b4 167 [(ii m.W),(ii m.H),(ll a2 v2 n2),(ii (af (bS+1))),(ll a6 (aG x6 (ax x7) (af (bS+1))) n6)])] J J ⟨dP,trivial⟩ dP (an sl (ae (rx T 7 (ar (_,_,_,_,_) [0,0,1,0] ⟨Z6,s8⟩ J J)))))))
 refine rc T 12 ?_
 cases Z6;refine gM [2,1,1] J (p1 T J [1,0] ⟨_,_,⟨b4,(bo [(cl b4 167 [(ii m.W),(ii m.H),(ll a2 v2 n2),(ii (af (bS+1))),(ll a6 x6 n6)]),H2,H6]),(show iU (bx.mk (aJ.mk m.W m.H v2) (af (bS+1)) x6) b4 (bo [(cl b4 167 [(ii m.W),(ii m.H),(ll a2 v2 n2),(ii (af (bS+1))),(ll a6 x6 n6)]),H2,H6]) from⟨a2,n2,H2,a6,n6,H6,s2,s6,J⟩),J,J⟩,J,J⟩ J)
def iY.f (g:bx):Option (Int×Int):=some (g.m.W,g.m.H)
theorem iY.c (H:iY.f g=some r) (fW:iU g fD gC):
 QU 171 [(pp fD)] [gC] F (.tuple #[(ii r.1),(ii r.2)]):=by
 unfold iY.f at H;refine aH Tryz.func171 J J (λW=>rc T 13 (fj J (rc T 3 ?_)));obtain⟨a3,n3,H3,a4,n4,H4,s3,s4,cL⟩:=(λx=>x) fW;refine bY 0 (congrArg some cL) (fz J (dy mix aA ?_))
 iterate 4 refine au T J ?_
 refine cB T 1 J J J ?_
 iterate 4 refine au T J ?_
 refine cB T 1 J J J (au T J (au T J (cU (rx T 2 ?_))))
 cases H;refine dH [1,1,1] J cL (p0 T J [1,0] J)
def pY.f (g:bx):Option Int:=some g.bS
theorem pY.c (H:pY.f g=some r) (fW:iU g fD gC):
 QU 136 [(pp fD)] [gC] F (ii r):=by
 unfold pY.f at H;refine aH Tryz.func136 J J (λW=>rc T 12 (fj J (rc T 3 ?_)));obtain⟨a3,n3,H3,a4,n4,H4,s3,s4,cL⟩:=(λx=>x) fW;refine bY 0 (congrArg some cL) (fz J (rc T 4 (lf T 1 J (ro T 4 ?_))))
 cases H;refine dH [1,1,1] J cL (p0 T J [1,0] J)
def ye.f (g:bx) (cell:Int) (cost:Int):Option (Int×bx):=(if cell<0 then(some true) else(some (decide (cell≥(aa g.m.C:Int))))).bind λx1=>if x1=true then(some (7,g)) else(if((decide (cost<1))||(decide (cost>255)))=true then(some (8,g)) else(if(0<=cell/\cell<(aa g.m.C:Int)) then((gJ.f g.m.W g.m.H cell).bind λv3=>if(0<=v3/\v3<(aa g.qA:Int)) then(some (0,(bx.mk (aJ.mk g.m.W g.m.H (aG g.m.C (ax cell) (bP cost))) (af (g.bS+1)) (aG g.qA (ax v3) (af (g.bS+1)))))) else none) else none))
def ye.R (ab8:Nat) (r:(Int×bx)):bm:=λu G=> ∃(H0:Hp),iU r.2 ab8 H0/\u=(ii r.1)/\G=[H0]
theorem ye.c (H:ye.f g cell cost=some r) (fW:iU g fD gC):
 QR 155 [(pp fD),(ii cell),(ii cost)] [gC] [] F (ye.R fD r):=by
 unfold ye.f at H;refine aH Tryz.func155 J J (λW=>rc T 14 (fj J (mq H [0,1,2] [1,0] (λz2 (x1:Bool)=>(x1=z2,[(10,(bb x1))],[])) J J (λz2 Z1 _=>?_) ?_)))
 ·obtain⟨a3,n3,H3,a4,n4,H4,s3,s4,cL⟩:=(λx=>x) fW;refine bY 0 (congrArg some cL) (fz J (rc T 4 (ad 13 J Z1 (λZ1=>?_) (λZ1=>?_))))
  ·refine ro T 12 (dH [1,1,1] J cL (am _ [0,0] (oi Z1) J J))
  refine ro T 5 (lf T 1 J (ro T 6 (dH [1,1,1] J cL (am _ [0,0] (oi Z1) J J))))
 rintro _ x1 rfl H;refine cb J H (λH=>?_) (λH=>?_)
 ·refine rc T 8 ?_
  cases H;exact p1 T J [1,0] ⟨gC,fW,J,J⟩ J
 refine rc T 5 (go T [3,4,5] 26 [0,1,2] 29 J J J J J J J (ro T 3 (cb J H (λH=>?_) (λH=>?_))))
 ·refine rc T 8 ?_
  cases H;exact p1 T J [1,0] ⟨gC,fW,J,J⟩ J
 refine rc T 4 ?_;obtain⟨a6,n6,H6,a7,n7,H7,s6,s7,sZ⟩:=(λx=>x) fW;refine bY 1 (congrArg some sZ) (fz J (rc T 5 (lf T 1 J (ro T 3 ?_))));obtain⟨c5,H⟩:=aF H;obtain⟨q8,o8,e8⟩:=s6.r.addr c5.1 c5.2;refine ix T J e8 c5 (ba (lD (k:=(Fl.int .u8)) T 2 0 (bP cost) J J J J J J s6 e8 c5 J J J (λH9 s9=>kg [0,1] [0,1,1] [0,1,1,0] [] [(cl fD 167 [(ii g.m.W),(ii g.m.H),(ll a6 (aG g.m.C (ax cell) (bP cost)) n6),(ii g.bS),(ll a7 g.qA n7)])] J J trivial dP (ro T 7 (lf T 3 J (ro T 3 (sg T 3 J (ro T 3 (ks [0,1] J (fz J (rz [21] mix (bU bT) (λhg pf=>ha T 19 [0,1,2] sz hg pf J (al T 3 3 sz hg pf J J J (ha T 14 [4,5,6,7] sz hg pf J (al T 8 3 sz hg pf J J J (ha T 9 [9,10,11,12] sz hg pf J (al T 13 3 sz hg pf J J J (ha T 4 [14,16,17,18] sz hg pf J (al T 19 3 sz hg pf J J J (ao 15 (kh [] J tf H (gJ.c ·) (λv3 H=>an sz ?_))))))))))))))))))))));obtain⟨c7,H⟩:=aF H;obtain⟨Mf,L9,qK⟩:=s7.r.addr c7.1 c7.2;refine av 20 sz hg pf J (cV T J J J J J qK c7.1 c7.2) (ao 21 (lD (k:=(Fl.int .i64)) T 2 0 (af (g.bS+1)) J J J J J J s7 qK c7 J J J (λcM dr=>kg [0,1,46,47,48,50,51,52,53,54,55,56,57,58,59,60,61,62,63,64,65,66] [0,0,0] [0,0,0,0] [(49,(ll a7 (aG g.qA (ax v3) (af (g.bS+1))) n7))] [(cl fD 167 [(ii g.m.W),(ii g.m.H),(ll a6 (aG g.m.C (ax cell) (bP cost)) n6),(ii (af (g.bS+1))),(ll a7 (aG g.qA (ax v3) (af (g.bS+1))) n7)])] J J ⟨dP,trivial⟩ dP (an sl (ae (rx T 7 ?_))))))
 cases H;refine gM [3,1,1] J (p1 T J [1,0] ⟨(bo [(cl fD 167 [(ii g.m.W),(ii g.m.H),(ll a6 (aG g.m.C (ax cell) (bP cost)) n6),(ii (af (g.bS+1))),(ll a7 (aG g.qA (ax v3) (af (g.bS+1))) n7)]),H9,cM]),(show iU (bx.mk (aJ.mk g.m.W g.m.H (aG g.m.C (ax cell) (bP cost))) (af (g.bS+1)) (aG g.qA (ax v3) (af (g.bS+1)))) fD (bo [(cl fD 167 [(ii g.m.W),(ii g.m.H),(ll a6 (aG g.m.C (ax cell) (bP cost)) n6),(ii (af (g.bS+1))),(ll a7 (aG g.qA (ax v3) (af (g.bS+1))) n7)]),H9,cM]) from⟨a6,n6,H9,a7,n7,cM,s9,dr,J⟩),J,J⟩ J)
def mB.l0:Nat->bx->Int->(Int×Int)->(Int×Int)->List Int->Int->Option (aJ×Bool)
 |0,_,_,_,_,_,_=>none
 |k7+1,g,bI,v1,v2,x5,x6=>if x6<v2.2 then((u6.f v1.1 v1.2 bI (af (x6*v2.1))).bind λv8=>if(0<=v8/\v8<=(af (v8+v2.1))/\(af (v8+v2.1))<=(aa g.m.C:Int)) then(if(aa x5+aa (aB g.m.C v8 (af (v8+v2.1)))<=1099511627776) then(mB.l0 k7 g bI v1 v2 (x5++(aB g.m.C v8 (af (v8+v2.1)))) (af (x6+1))) else none) else none) else(some ((aJ.mk v2.1 v2.2 x5),true))
def mB.f (g:bx) (bI:Int):Option (aJ×Bool):=(iY.f g).bind λv1=>(sB.f v1.1 v1.2 bI).bind λv2=>if(v2.1==0)=true then(some ((aJ.mk 0 0 []),false)) else(mB.l0 fuel g bI v1 v2 [] 0)
def mB.R (r:(aJ×Bool)):bm:=λu G=> ∃a0 n0 H0,ak (Fl.int .u8) 5 r.1.C a0 n0 H0/\u=(.tuple #[(.agg #[(ii r.1.W),(ii r.1.H),(ll a0 r.1.C n0)]),(bb r.2)])/\G=[H0]
theorem mB.c (H:mB.f g bI=some r) (fW:iU g fD gC):
 QR 140 [(pp fD),(ii bI)] [gC] [gC] F (mB.R r):=by
 unfold mB.f at H;refine aH Tryz.func140 J J (λW=>rc T 2 (nc T J (λb2=>ro T 6 (k [0] J vk H (iY.c · fW) (λv1 H=>ro T 12 (k [] J Hw H (sB.c ·) (λv2 H=>ro T 14 (cb J H (λH=>?_) (λH=>?_)))))))))
 ·refine rc T 3 (sg T 2 J (ro T 5 ?_))
  cases H;refine bC (pb T J (.c_ (j:=2) [(ii 0),(ii 0),nl] J J J J J J J (.tmp J .nil)) [3,0,0] ⟨(_,_),none,0,[],ak.nil,J,J⟩ J J)
 refine rc T 7 (nc T J (λb4=>sg T 3 J (ro T 10 (bC (lq [0,1,4,6,7,8,10,31] [1,0,0] (λ(⟨k7,x5,x6,a6,n6,H6⟩:Nat×List Int×Int×Option Addr×Nat×Hp)=>(mB.l0 k7 g bI v1 v2 x5 x6=some r/\ak (Fl.int .u8) 5 x5 a6 n6 H6,[(32,(ii x6))],[(cl b4 139 [(ii v2.1),(ii v2.2),(ll a6 x5 n6)]),H6])) J J (fuel,[],0,none,0,[]) [1,0,0,0,0] ⟨H,ak.nil⟩ J J ?_)))));rintro k7 ⟨x5,x6,a6,n6,H6⟩ ⟨Z4,s6⟩;rw[mB.l0] at Z4;refine rc T 6 (cd J Z4 (λZ4=>?_) (λZ4=>?_))
 ·refine rc T 18 (k [] J KZ Z4 (u6.c ·) (λv8 Z4=>ro T 3 ?_));obtain⟨a8,n8,H8,a9,n9,H9,s8,s9,s_⟩:=(λx=>x) fW;refine bY 1 (congrArg some s_) (fz J (fz J (rz [12,14] mix (bU bT) (λhg pf=>ha T 14 [0] sz hg pf J (al T 1 2 sz hg pf J J J (ha T 9 [2,3,4,5] sz hg pf J (al T 6 4 sz hg pf J J J (ha T 4 [7,8,9,10] sz hg pf J ?_))))))));obtain⟨c7,Z4⟩:=aF Z4;refine av 11 sz hg pf J (lb T J J J J J J c7 s8.ck) (ao 12 ?_);obtain⟨c8,Z4⟩:=aF Z4;refine eP (k:=(Fl.int .u8)) (xs:=x5) T (g:=3) J J J J J J J J J J s6 (od (oO s8 5) c7 s8.ck) c8 J (λcK n10 cu bX=>an sl (hb T 13 sl hg pf J (ao 14 (sf T 2 J (an sl (ae (rx T 7 (dH [4,4,4] J s_ (ar (_,_,_,_,_) [0,3,0,0,0] ⟨Z4,bX⟩ J J)))))))))
 refine rc T 7 (lm T 3 J (sg T 2 J (ro T 4 ?_)))
 cases Z4;exact pb T J (.c_ (j:=2) [(ii v2.1),(ii v2.2),(ll a6 x5 n6)] J J J J J J J (.tmp J .nil)) [4,1,0] ⟨(_,_),a6,n6,H6,s6,J,J⟩ J J
def qO.f (g:bx) (bI:Int):Option Int:=(if bI<0 then(some true) else(some (decide (bI≥(aa g.qA:Int))))).bind λx1=>if x1=true then(some 0) else(if(0<=bI/\bI<(aa g.qA:Int)) then(some (rd g.qA bI)) else none)
theorem qO.c (H:qO.f g bI=some r) (fW:iU g fD gC):
 QU 137 [(pp fD),(ii bI)] [gC] F (ii r):=by
 unfold qO.f at H;refine aH Tryz.func137 J J (λW=>rc T 6 (mq H [0,1] [1,0] (λz2 (x1:Bool)=>(x1=z2,[(19,(bb x1))],[])) J J (λz2 Z1 _=>?_) ?_))
 ·obtain⟨a3,n3,H3,a4,n4,H4,s3,s4,cL⟩:=(λx=>x) fW;refine bY 0 (congrArg some cL) (fz J (rc T 8 (ad 11 J Z1 (λZ1=>?_) (λZ1=>?_))))
  ·refine ro T 10 (dH [1,1,1] J cL (am _ [0,0] (oi Z1) J J))
  refine ro T 4 (lf T 1 J (ro T 5 (dH [1,1,1] J cL (am _ [0,0] (oi Z1) J J))))
 rintro _ x1 rfl H;refine cb J H (λH=>?_) (λH=>?_)
 ·refine rc T 7 ?_
  cases H;exact p0 T J [1,0] J
 refine rc T 3 ?_;obtain⟨a6,n6,H6,a7,n7,H7,s6,s7,sZ⟩:=(λx=>x) fW;refine bY 1 (congrArg some sZ) (fz J (rc T 4 (lf T 1 J (ro T 1 ?_))));obtain⟨c4,H⟩:=aF H;obtain⟨q8,o8,e8⟩:=s7.r.addr c4.1 c4.2;refine ix T J e8 c4 (le T 0 (oO s7 3) e8 c4 J J (ro T 4 ?_))
 cases H;refine dH [1,1,1] J sZ (p0 T J [1,0] J)
def Bo.f:Option aJ:=some (aJ.mk 0 0 [])
def Bo.R (r:aJ):bm:=λu G=> ∃a0 n0 H0,ak (Fl.int .u8) 5 r.C a0 n0 H0/\u=(.agg #[(ii r.W),(ii r.H),(ll a0 r.C n0)])/\G=[H0]
theorem Bo.c (H:Bo.f=some r):
 QR 74 [(.pointer none)] [] [] F (Bo.R r):=by
 unfold Bo.f at H;refine aH Tryz.func74 J J (λW=>rc T 2 (nc T J (λb1=>ro T 9 (oA J (rc T 3 (sg T 1 J (ro T 4 ?_)))))))
 cases H;refine bC (pb T J (.c_ (j:=1) [(ii 0),(ii 0),nl] J J J J J J J .nil) [2,0] ⟨(_,_),none,0,[],ak.nil,J,J⟩ J J)
def yf.f (g:bx):Option aJ:=(o_.f g.m.C).bind λv1=>some (aJ.mk g.m.W g.m.H v1)
def yf.R (r:aJ):bm:=λu G=> ∃a0 n0 H0,ak (Fl.int .u8) 5 r.C a0 n0 H0/\u=(.agg #[(ii r.W),(ii r.H),(ll a0 r.C n0)])/\G=[H0]
theorem yf.c (H:yf.f g=some r) (fW:iU g fD gC):
 QR 74 [(pp fD)] [gC] [gC] F (yf.R r):=by
 unfold yf.f at H;refine aH Tryz.func74 J J (λW=>rc T 2 (nc T J (λb2=>ro T 9 (fj J (rc T 3 ?_)))));obtain⟨a4,n4,H4,a5,n5,H5,s4,s5,dI⟩:=(λx=>x) fW;refine bY 0 (congrArg some dI) (fz J (ks [0,2] J (fz J (rg [17] [0,0,0,0,0] mix (bU bT) (λhg pf=>ha T 14 [0,1,2,3] sz hg pf J (al T 4 2 sz hg pf J J J (ha T 9 [5,6,7,8] sz hg pf J (al T 9 2 sz hg pf J J J (ha T 4 [10,11,12,13] sz hg pf J (al T 14 2 sz hg pf J J J (ao 15 (kR o_.R [] [] J OE H (o_.c · (oO s4 3) s4.ck) (λv1 H=>?_)))))))))))));rintro _ _ ⟨a6,n6,H6,s6,rfl,rfl⟩;refine fz J (an (so [0,0,0,0,0]) (ha T 1 [16] (so [0,0,0,0,0]) hg pf J (ao 17 (sf T 1 J (an sl (ae (rx T 1 (rc T 1 ?_))))))))
 cases H;refine dH [2,2,2] J dI (pb T J (.c_ (j:=1) [(ii g.m.W),(ii g.m.H),(ll a6 v1 n6)] J J J J J J J .nil) [2,2,0] ⟨(_,_),a6,n6,H6,s6,J,J⟩ J J)
end
noncomputable section
def zJ.f:Option (List Int):=some [0,1,2,3]
theorem zJ.c (H:zJ.f=some r):
 QU 205 [] [] F (.agg #[(ii (rd r 0)),(ii (rd r 1)),(ii (rd r 2)),(ii (rd r 3))]):=by
 unfold zJ.f at H;refine aH Tryz.func205 J J (λW=>rc T 2 (nc T J (λb1=>ro T 4 (bz J (KD T J J J J J J) (sg T 1 J (ro T 3 ?_))))))
 cases H;exact pb T J (.c_ (j:=1) [(ii 0),(ii 1),(ii 2),(ii 3)] J J J J J J J .nil) [0] () J J
def fG.l3:Nat->Int->Int->List Int->Int->Option (List Int)
 |0,_,_,_,_=>none
 |LH+1,tw,th,eH,dh=>if dh<th then(if(aa eH+1<=1099511627776) then(fG.l3 LH tw th (eH++[(af (0+(af (dh*tw))))]) (af (dh+1))) else none) else(some eH)
def fG.l2:Nat->Int->Int->List Int->Int->Option (List Int)
 |0,_,_,_,_=>none
 |ma+1,tw,th,aT,bd=>if bd<th then(if(aa aT+1<=1099511627776) then(fG.l2 ma tw th (aT++[(af ((af (tw-1))+(af (bd*tw))))]) (af (bd+1))) else none) else(some aT)
def fG.l1:Nat->Int->List Int->Int->Option (List Int)
 |0,_,_,_=>none
 |yy+1,tw,x8,x9=>if x9<tw then(if(aa x8+1<=1099511627776) then(fG.l1 yy tw (x8++[(af (0+x9))]) (af (x9+1))) else none) else(some x8)
def fG.l0:Nat->Int->Int->List Int->Int->Option (List Int)
 |0,_,_,_,_=>none
 |k5+1,tw,th,x3,x4=>if x4<tw then(if(aa x3+1<=1099511627776) then(fG.l0 k5 tw th (x3++[(af ((af ((af (th-1))*tw))+x4))]) (af (x4+1))) else none) else(some x3)
def fG.f (tw:Int) (th:Int) (side:Int):Option (List Int):=if(side==2)=true then(fG.l0 fuel tw th [] 0) else(if(side==0)=true then(fG.l1 fuel tw [] 0) else(if(side==1)=true then(fG.l2 fuel tw th [] 0) else(if(side==3)=true then(fG.l3 fuel tw th [] 0) else(some []))))
def fG.R (r:(List Int)):bm:=λu G=> ∃a0 n0 H0,ak (Fl.int .i64) 3 r a0 n0 H0/\u=(ll a0 r n0)/\G=[H0]
theorem fG.c (H:fG.f tw th side=some r):
 QR 233 [(ii tw),(ii th),(ii side)] [] [] F (fG.R r):=by
 unfold fG.f at H;refine aH Tryz.func233 J J (λW=>rc T 38 (cb J H (λH=>?_) (λH=>?_)))
 ·refine rc T 22 (bC (lq [8,24] [0] (λ(⟨k5,x3,x4,a2,n2,H2⟩:Nat×List Int×Int×Option Addr×Nat×Hp)=>(fG.l0 k5 tw th x3 x4=some r/\ak (Fl.int .i64) 3 x3 a2 n2 H2,[(7,(ll a2 x3 n2)),(25,(ii x4))],[H2])) J J (fuel,[],0,none,0,[]) [0,0] ⟨H,ak.nil⟩ J J ?_));rintro k5 ⟨x3,x4,a2,n2,H2⟩ ⟨Z2,s2⟩;rw[fG.l0] at Z2;refine rc T 6 (cd J Z2 (λZ2=>?_) (λZ2=>?_))
  ·refine rc T 15 (ba (dp (k:=(Fl.int .i64)) T [(af ((af ((af (th-1))*tw))+x4))] J J J J J J J J J (λa3 H3 s3=>?_)));obtain⟨c4,Z2⟩:=aF Z2;refine ba (eP (k:=(Fl.int .i64)) (xs:=x3) T (g:=1) J J J J J J J J J J s2 (oO s3 2) c4 J (λa4 n4 H4 s4=>ro T 9 (ar (_,_,_,_,_) [0,0] ⟨Z2,s4⟩ J J)))
  refine rc T 19 ?_
  cases Z2;exact p1 T J [1,0] ⟨a2,n2,H2,s2,J,J⟩ J
 refine rc T 9 (cb J H (λH=>?_) (λH=>?_))
 ·refine rc T 15 (bC (lq [8,24] [0] (λ(⟨yy,x8,x9,a6,n6,H6⟩:Nat×List Int×Int×Option Addr×Nat×Hp)=>(fG.l1 yy tw x8 x9=some r/\ak (Fl.int .i64) 3 x8 a6 n6 H6,[(7,(ll a6 x8 n6)),(25,(ii x9))],[H6])) J J (fuel,[],0,none,0,[]) [0,0] ⟨H,ak.nil⟩ J J ?_));rintro yy ⟨x8,x9,a6,n6,H6⟩ ⟨Z6,s6⟩;rw[fG.l1] at Z6;refine rc T 6 (cd J Z6 (λZ6=>?_) (λZ6=>?_))
  ·refine rc T 15 (ba (dp (k:=(Fl.int .i64)) T [(af (0+x9))] J J J J J J J J J (λa7 H7 s7=>?_)));obtain⟨c8,Z6⟩:=aF Z6;refine ba (eP (k:=(Fl.int .i64)) (xs:=x8) T (g:=1) J J J J J J J J J J s6 (oO s7 2) c8 J (λa8 n8 H8 s8=>ro T 9 (ar (_,_,_,_,_) [0,0] ⟨Z6,s8⟩ J J)))
  refine rc T 19 ?_
  cases Z6;exact p1 T J [1,0] ⟨a6,n6,H6,s6,J,J⟩ J
 refine rc T 9 (cb J H (λH=>?_) (λH=>?_))
 ·refine rc T 24 (bC (lq [0,8,37] [0] (λ(⟨ma,aT,bd,cK,n10,cu⟩:Nat×List Int×Int×Option Addr×Nat×Hp)=>(fG.l2 ma tw th aT bd=some r/\ak (Fl.int .i64) 3 aT cK n10 cu,[(7,(ll cK aT n10)),(38,(ii bd))],[cu])) J J (fuel,[],0,none,0,[]) [0,0] ⟨H,ak.nil⟩ J J ?_));rintro ma ⟨aT,bd,cK,n10,cu⟩ ⟨jM,bX⟩;rw[fG.l2] at jM;refine rc T 6 (cd J jM (λjM=>?_) (λjM=>?_))
  ·refine rc T 17 (ba (dp (k:=(Fl.int .i64)) T [(af ((af (tw-1))+(af (bd*tw))))] J J J J J J J J J (λdG cM dr=>?_)));obtain⟨iF,jM⟩:=aF jM;refine ba (eP (k:=(Fl.int .i64)) (xs:=aT) T (g:=1) J J J J J J J J J J bX (oO dr 2) iF J (λa12 n12 dL dS=>ro T 9 (ar (_,_,_,_,_) [0,0] ⟨jM,dS⟩ J J)))
  refine rc T 15 ?_
  cases jM;exact p1 T J [1,0] ⟨cK,n10,cu,bX,J,J⟩ J
 refine rc T 8 (cb J H (λH=>?_) (λH=>?_))
 ·refine rc T 18 (bC (lq [0,8,37] [0] (λ(⟨LH,eH,dh,jk,n14,gf⟩:Nat×List Int×Int×Option Addr×Nat×Hp)=>(fG.l3 LH tw th eH dh=some r/\ak (Fl.int .i64) 3 eH jk n14 gf,[(7,(ll jk eH n14)),(38,(ii dh))],[gf])) J J (fuel,[],0,none,0,[]) [0,0] ⟨H,ak.nil⟩ J J ?_));rintro LH ⟨eH,dh,jk,n14,gf⟩ ⟨cj,gQ⟩;rw[fG.l3] at cj;refine rc T 6 (cd J cj (λcj=>?_) (λcj=>?_))
  ·refine rc T 17 (ba (dp (k:=(Fl.int .i64)) T [(af (0+(af (dh*tw))))] J J J J J J J J J (λkC dT eG=>?_)));obtain⟨mw,cj⟩:=aF cj;refine ba (eP (k:=(Fl.int .i64)) (xs:=eH) T (g:=1) J J J J J J J J J J gQ (oO eG 2) mw J (λkD n16 gB gw=>ro T 9 (ar (_,_,_,_,_) [0,0] ⟨cj,gw⟩ J J)))
  refine rc T 15 ?_
  cases cj;exact p1 T J [1,0] ⟨jk,n14,gf,gQ,J,J⟩ J
 refine rc T 20 ?_
 cases H;refine bC (p1 T J [1,0] ⟨none,0,[],ak.nil,J,J⟩ J)
def zI.f (w:Int) (h:Int) (cell:Int) (side:Int):Option Int:=(mP.f w h cell side).bind λv1=>(if v1<0 then(some true) else((gJ.f w h v1).bind λv4=>(gJ.f w h cell).bind λv5=>some (v4==v5))).bind λx2=>if x2=true then(some (-1)) else(some v1)
theorem zI.c (H:zI.f w h cell side=some r):
 QU 206 [(ii w),(ii h),(ii cell),(ii side)] [] F (ii r):=by
 unfold zI.f at H;refine aH Tryz.func206 J J (λW=>rc T 11 (k [] J Bq H (mP.c ·) (λv1 H=>ro T 4 (mq H [9] [0] (λz3 (x2:Bool)=>(x2=z3,[(27,(bb x2))],[])) J J (λz3 Z2 _=>?_) ?_))))
 ·refine rc T 4 (ad 17 J Z2 (λZ2=>?_) (λZ2=>?_))
  ·refine ro T 12 (am _ [0] (oi Z2) J J)
  refine ro T 3 (k [] J tf Z2 (gJ.c ·) (λv4 Z2=>ro T 3 (k [] J tf Z2 (gJ.c ·) (λv5 Z2=>ro T 4 (am _ [0] (oi Z2) J J)))))
 rintro _ x2 rfl H;refine cb J H (λH=>?_) (λH=>?_)
 ·refine rc T 7 ?_
  cases H;exact p0 T J [0] J
 refine rc T 9 ?_
 cases H;exact p0 T J [0] J
def gX.l2:Nat->Int->Int->Int->List Bool->List Int->Int->Option (List Int)
 |0,_,_,_,_,_,_=>none
 |qa+1,w,h,bI,x5,cg,eO=>if eO<(aa x5:Int) then(if(0<=eO/\eO<(aa x5:Int)) then(if(rd x5 eO)=true then((u6.f w h bI eO).bind λv25=>if(aa cg+1<=1099511627776) then(gX.l2 qa w h bI x5 (cg++[v25]) (af (eO+1))) else none) else(gX.l2 qa w h bI x5 cg (af (eO+1)))) else none) else(some cg)
def gX.l1:Nat->(List Int)->List Bool->Int->Option (List Bool)
 |0,_,_,_=>none
 |LG+1,v10,du,eH=>if eH<(aa v10:Int) then(if(0<=eH/\eH<(aa v10:Int)) then(if(0<=(rd v10 eH)/\(rd v10 eH)<(aa du:Int)) then(gX.l1 LG v10 (aG du (ax (rd v10 eH)) true) (af (eH+1))) else none) else none) else(some du)
def gX.l0:Nat->Int->Int->Int->(Int×Int)->(List Int)->List Bool->Int->Option (List Int)
 |0,_,_,_,_,_,_,_=>none
 |k7+1,w,h,bI,v1,v2,x5,x6=>if x6<4 then((if(0<=x6/\x6<(aa [(rd v2 0),(rd v2 1),(rd v2 2),(rd v2 3)]:Int)) then((fG.f v1.1 v1.2 (rd [(rd v2 0),(rd v2 1),(rd v2 2),(rd v2 3)] x6)).bind λv10=>(if((aa v10:Int)==0)=true then(some true) else(if(0<=(0:Int)/\(0:Int)<(aa v10:Int)) then((u6.f w h bI (rd v10 0)).bind λiB=>(zI.f w h iB (rd [(rd v2 0),(rd v2 1),(rd v2 2),(rd v2 3)] x6)).bind λeN=>some (decide (eN<0))) else none)).bind λbj=>if bj=true then(some x5) else(gX.l1 fuel v10 x5 0)) else none).bind λx8=>gX.l0 k7 w h bI v1 v2 x8 (af (x6+1))) else(gX.l2 fuel w h bI x5 [] 0)
def gX.f (w:Int) (h:Int) (bI:Int):Option (List Int):=(sB.f w h bI).bind λv1=>if(0<=(af (v1.1*v1.2))/\(af (v1.1*v1.2))<=1099511627776) then((zJ.f).bind λv2=>gX.l0 fuel w h bI v1 v2 (cy (ax (af (v1.1*v1.2))) false) 0) else none
def gX.R (r:(List Int)):bm:=λu G=> ∃a0 n0 H0,ak (Fl.int .i64) 3 r a0 n0 H0/\u=(ll a0 r n0)/\G=[H0]
theorem gX.c (H:gX.f w h bI=some r):
 QR 203 [(ii w),(ii h),(ii bI)] [] [] F (gX.R r):=by
 unfold gX.f at H;refine aH Tryz.func203 J J (λW=>rc T 10 (k [] J Hw H (sB.c ·) (λv1 H=>ro T 12 ?_)));obtain⟨c2,H⟩:=aF H;refine ba (zB (k:=Fl.bool) T false J J J J J J J J c2 J (λa1 n1 H1 s1=>ro T 6 (k [] J U1 H (zJ.c ·) (λv2 H=>ro T 4 (lq [0,1,2,7,8,29] [0] (λ(⟨k7,x5,x6,a3,n3,H3⟩:Nat×List Bool×Int×Option Addr×Nat×Hp)=>(gX.l0 k7 w h bI v1 v2 x5 x6=some r/\ak Fl.bool 4 x5 a3 n3 H3,[(9,(ll a3 x5 n3)),(30,(ii x6))],[H3])) J J (fuel,(cy (ax (af (v1.1*v1.2))) false),0,a1,n1,H1) [0,0] ⟨H,s1⟩ J J ?_)))));rintro k7 ⟨x5,x6,a3,n3,H3⟩ ⟨Z4,s3⟩;rw[gX.l0] at Z4;refine rc T 6 (cd J Z4 (λZ4=>?_) (λZ4=>?_))
 ·refine rc T 2 (mq Z4 [0,1,2,7,8,29,30] [0] (λz9 (⟨x8,a4,n4,H4⟩:List Bool×Option Addr×Nat×Hp)=>(x8=z9/\ak Fl.bool 4 x8 a4 n4 H4,[(9,(ll a4 x8 n4))],[H4])) J J (λz9 Z6 _=>?_) ?_)
  ·refine rc T 3 ?_;obtain⟨c7,Z6⟩:=aF Z6;refine bz J (TM T (Fl.int .i64) [(rd v2 0),(rd v2 1),(rd v2 2),(rd v2 3)] J J J J J J J J J c7 J) (ro T 8 (kr fG.R [] [] J aeT Z6 (fG.c ·) (λv10 Z6=>?_)));rintro _ _ ⟨a5,n5,H5,s5,rfl,rfl⟩;refine fz J (ro T 4 (mq Z6 [0,1,2,7,8,9,12,29,30] [0,0,0] (λz12 (bj:Bool)=>(bj=z12,[(53,(bb bj))],[])) J J (λz12 Z9 _=>?_) ?_))
   ·refine rc T 5 (ab 40 J Z9 (λZ9=>?_) (λZ9=>?_))
    ·refine ro T 15 (am _ [0,0,0] (oi Z9) J J)
    refine ro T 6 ?_;obtain⟨eQ,Z9⟩:=aF Z9;obtain⟨q6,o6,e6⟩:=s5.r.addr eQ.1 eQ.2;refine ix T J e6 eQ (le T 0 (oO s5 2) e6 eQ J J (k [] J KZ Z9 (u6.c ·) (λiB Z9=>ro T 1 (k [] J U2 Z9 (zI.c ·) (λeN Z9=>ro T 4 (am _ [0,0,0] (oi Z9) J J))))))
   rintro _ bj rfl Z6;refine cb J Z6 (λZ6=>?_) (λZ6=>?_)
   ·refine rc T 4 (am (_,_,_,_) [0,0] ⟨oi Z6,s3⟩ J J)
   refine rc T 10 (lq [0,1,2,7,8,29,30,54,55] [0,1] (λ(⟨LG,du,eH,a8,n8,H8⟩:Nat×List Bool×Int×Option Addr×Nat×Hp)=>(gX.l1 LG v10 du eH=some z9/\ak Fl.bool 4 du a8 n8 H8,[(9,(ll a8 du n8)),(56,(ii eH))],[H8])) J J (fuel,x5,0,a3,n3,H3) [0,1,0] ⟨Z6,s3⟩ J J ?_);rintro LG ⟨du,eH,a8,n8,H8⟩ ⟨dD,s8⟩;rw[gX.l1] at dD;refine rc T 6 (cd J dD (λdD=>?_) (λdD=>?_))
   ·refine rc T 6 ?_;obtain⟨l9,dD⟩:=aF dD;obtain⟨q9,o9,e9⟩:=s5.r.addr l9.1 l9.2;refine ix T J e9 l9 (le T 0 (oO s5 1) e9 l9 J J (ro T 6 ?_));obtain⟨l_,dD⟩:=aF dD;obtain⟨Mf,L9,qK⟩:=s8.r.addr l_.1 l_.2;refine ix T J qK l_ (ba (lD (k:=Fl.bool) T 2 0 true J J J J J J s8 qK l_ J J J (λcM dr=>kf [0,1,2,7,8,29,30,54,55,56] [0,0,0] [(9,(ll a8 (aG du (ax (rd v10 eH)) true) n8))] J J ⟨dP,trivial⟩ (ro T 8 (ar (_,_,_,_,_) [0,0,0] ⟨dD,dr⟩ J J)))))
   refine rc T 6 (am (_,_,_,_) [0,1] ⟨oi dD,s8⟩ J J)
  rintro _ ⟨x8,a4,n4,H4⟩ ⟨rfl,s4⟩ Z4;refine rc T 5 (ar (_,_,_,_,_) [0,0] ⟨Z4,s4⟩ J J)
 refine rc T 19 (bC (lq [0,1,2,65,66] [0,0] (λ(⟨qa,cg,eO,dQ,n13,fe⟩:Nat×List Int×Int×Option Addr×Nat×Hp)=>(gX.l2 qa w h bI x5 cg eO=some r/\ak (Fl.int .i64) 3 cg dQ n13 fe,[(15,(ll dQ cg n13)),(67,(ii eO))],[fe])) J J (fuel,[],0,none,0,[]) [0,0,0] ⟨Z4,ak.nil⟩ J J ?_));rintro qa ⟨cg,eO,dQ,n13,fe⟩ ⟨fv,dF⟩;rw[gX.l2] at fv;refine rc T 6 (cd J fv (λfv=>?_) (λfv=>?_))
 ·refine rc T 7 ?_;obtain⟨pU,fv⟩:=aF fv;obtain⟨q14,o14,CW⟩:=s3.r.addr pU.1 pU.2;refine ix T J CW pU (le T 0 (oO s3 1) CW pU J J (ro T 9 (cb J fv (λfv=>?_) (λfv=>?_))))
  ·refine rc T 6 (k [] J KZ fv (u6.c ·) (λv25 fv=>ba (dp (k:=(Fl.int .i64)) T [v25] J J J J J J J J J (λkC dT eG=>?_))));obtain⟨ND,fv⟩:=aF fv;refine ba (eP (k:=(Fl.int .i64)) (xs:=cg) T (g:=2) J J J J J J J J J J dF (oO eG 3) ND J (λkD n16 gB gw=>ro T 9 (ar (_,_,_,_,_) [0,0,0] ⟨fv,gw⟩ J J)))
  refine rc T 8 (ar (_,_,_,_,_) [0,0,0] ⟨fv,dF⟩ J J)
 refine rc T 12 ?_
 cases fv;exact p1 T J [2,0] ⟨dQ,n13,fe,dF,J,J⟩ J
def vd.f (g:bx) (cell:Int):Option Bool:=(jq.f g cell).bind λv1=>some ((decide (v1>0))&&(decide (v1<255)))
theorem vd.c (H:vd.f g cell=some r) (fW:iU g fD gC):
 QU 204 [(pp fD),(ii cell)] [gC] F (bb r):=by
 unfold vd.f at H;refine aH Tryz.func204 J J (λW=>rc T 9 (k [0] J wI H (jq.c · fW) (λv1 H=>ro T 8 (ga T [3,4,5] 11 [] 14 J J J J J J J (ro T 4 ?_)))))
 cases H;exact p0 T J [0,0] J
def kF.l0:Nat->bx->(List Int)->List Int->Int->Option (List Int)
 |0,_,_,_,_=>none
 |k7+1,g,v2,x5,x6=>if x6<(aa v2:Int) then(if(0<=x6/\x6<(aa v2:Int)) then((vd.f g (rd v2 x6)).bind λv8=>if v8=true then(if(aa x5+1<=1099511627776) then(kF.l0 k7 g v2 (x5++[(rd v2 x6)]) (af (x6+1))) else none) else(kF.l0 k7 g v2 x5 (af (x6+1)))) else none) else(some x5)
def kF.f (g:bx) (bI:Int):Option (List Int):=(iY.f g).bind λv1=>(gX.f v1.1 v1.2 bI).bind λv2=>kF.l0 fuel g v2 [] 0
def kF.R (r:(List Int)):bm:=λu G=> ∃a0 n0 H0,ak (Fl.int .i64) 3 r a0 n0 H0/\u=(ll a0 r n0)/\G=[H0]
theorem kF.c (H:kF.f g bI=some r) (fW:iU g fD gC):
 QR 175 [(pp fD),(ii bI)] [gC] [gC] F (kF.R r):=by
 unfold kF.f at H;refine aH Tryz.func175 J J (λW=>rc T 8 (k [0] J vk H (iY.c · fW) (λv1 H=>ro T 18 (kr gX.R [] [] J aeB H (gX.c ·) (λv2 H=>?_)))));rintro _ _ ⟨a2,n2,H2,s2,rfl,rfl⟩;refine fz J (ro T 5 (bC (lq [0,18,19] [1,0,0] (λ(⟨k7,x5,x6,a4,n4,H4⟩:Nat×List Int×Int×Option Addr×Nat×Hp)=>(kF.l0 k7 g v2 x5 x6=some r/\ak (Fl.int .i64) 3 x5 a4 n4 H4,[(7,(ll a4 x5 n4)),(20,(ii x6))],[H4])) J J (fuel,[],0,none,0,[]) [1,0,0,0] ⟨H,ak.nil⟩ J J ?_)));rintro k7 ⟨x5,x6,a4,n4,H4⟩ ⟨Z3,s4⟩;rw[kF.l0] at Z3;refine rc T 6 (cd J Z3 (λZ3=>?_) (λZ3=>?_))
 ·refine rc T 6 ?_;obtain⟨c5,Z3⟩:=aF Z3;obtain⟨q5,o5,e5⟩:=s2.r.addr c5.1 c5.2;refine ix T J e5 c5 (le T 0 (oO s2 2) e5 c5 J J (ro T 7 (k [1] J OO Z3 (vd.c · fW) (λv8 Z3=>ro T 2 (cb J Z3 (λZ3=>?_) (λZ3=>?_))))))
  ·refine rc T 3 (ba (dp (k:=(Fl.int .i64)) T [(rd v2 x6)] J J J J J J J J J (λa6 H6 s6=>?_)));obtain⟨c8,Z3⟩:=aF Z3;refine ba (eP (k:=(Fl.int .i64)) (xs:=x5) T (g:=3) J J J J J J J J J J s4 (oO s6 4) c8 J (λa7 n7 H7 s7=>ro T 9 (ar (_,_,_,_,_) [0,0,0,0] ⟨Z3,s7⟩ J J)))
  refine rc T 8 (ar (_,_,_,_,_) [0,0,0,0] ⟨Z3,s4⟩ J J)
 refine rc T 12 ?_
 cases Z3;exact p1 T J [3,1,0] ⟨a4,n4,H4,s4,J,J⟩ J
def oB.l0:Nat->bx->Int->(Int×Int)->(List Int)->List eJ->Int->Option (List eJ)
 |0,_,_,_,_,_,_=>none
 |k8+1,g,cell,v1,v3,x6,x7=>if x7<4 then(if(0<=x7/\x7<(aa [(rd v3 0),(rd v3 1),(rd v3 2),(rd v3 3)]:Int)) then((zI.f v1.1 v1.2 cell (rd [(rd v3 0),(rd v3 1),(rd v3 2),(rd v3 3)] x7)).bind λv9=>(if v9≥0 then((vd.f g v9).bind λv12=>some v12) else(some false)).bind λaN=>if aN=true then((jq.f g v9).bind λiB=>if(aa x6+1<=1099511627776) then(oB.l0 k8 g cell v1 v3 (x6++[(eJ.mk v9 iB)]) (af (x7+1))) else none) else(oB.l0 k8 g cell v1 v3 x6 (af (x7+1)))) else none) else(some x6)
def oB.f (g:bx) (cell:Int):Option (List eJ):=(iY.f g).bind λv1=>(vd.f g cell).bind λv2=>if(!v2)=true then(some []) else((zJ.f).bind λv3=>oB.l0 fuel g cell v1 v3 [] 0)
def oB.R (r:(List eJ)):bm:=λu G=> ∃a0 n0 H0,ak qc 283 r a0 n0 H0/\u=(ll a0 r n0)/\G=[H0]
theorem oB.c (H:oB.f g cell=some r) (fW:iU g fD gC):
 QR 176 [(pp fD),(ii cell)] [gC] [gC] F (oB.R r):=by
 unfold oB.f at H;refine aH Tryz.func176 J J (λW=>rc T 8 (k [0] J vk H (iY.c · fW) (λv1 H=>ro T 12 (k [0] J OO H (vd.c · fW) (λv2 H=>ro T 3 (cb J H (λH=>?_) (λH=>?_)))))))
 ·refine rc T 7 ?_
  cases H;refine bC (p1 T J [2,0,0] ⟨none,0,[],ak.nil,J,J⟩ J)
 refine rc T 10 (k [] J U1 H (zJ.c ·) (λv3 H=>ro T 4 (bC (lq [0,1,5,6,20] [1,0] (λ(⟨k8,x6,x7,a4,n4,H4⟩:Nat×List eJ×Int×Option Addr×Nat×Hp)=>(oB.l0 k8 g cell v1 v3 x6 x7=some r/\ak qc 283 x6 a4 n4 H4,[(7,(ll a4 x6 n4)),(21,(ii x7))],[H4])) J J (fuel,[],0,none,0,[]) [1,0,0] ⟨H,ak.nil⟩ J J ?_))));rintro k8 ⟨x6,x7,a4,n4,H4⟩ ⟨Z5,s4⟩;rw[oB.l0] at Z5;refine rc T 6 (cd J Z5 (λZ5=>?_) (λZ5=>?_))
 ·refine rc T 6 ?_;obtain⟨c7,Z5⟩:=aF Z5;refine bz J (TM T (Fl.int .i64) [(rd v3 0),(rd v3 1),(rd v3 2),(rd v3 3)] J J J J J J J J J c7 J) (ro T 9 (k [] J U2 Z5 (zI.c ·) (λv9 Z5=>ro T 3 (mq Z5 [0,1,5,6,7,10,20,21] [0,0,0] (λmj (aN:Bool)=>(aN=mj,[(35,(bb aN))],[])) J J (λmj Z9 _=>?_) ?_))))
  ·refine rc T 4 (ad 31 J Z9 (λZ9=>?_) (λZ9=>?_))
   ·refine ro T 2 (k [1] J OO Z9 (vd.c · fW) (λv12 Z9=>ro T 3 (am _ [0,0,0] (oi Z9) J J)))
   refine ro T 6 (am _ [0,0,0] (oi Z9) J J)
  rintro _ aN rfl Z5;refine cb J Z5 (λZ5=>?_) (λZ5=>?_)
  ·refine rc T 5 (k [1] J wI Z5 (jq.c · fW) (λiB Z5=>ro T 1 (ba (dp (k:=qc) T [(eJ.mk v9 iB)] J J J J J J J J J (λa5 H5 s5=>?_)))));obtain⟨mv,Z5⟩:=aF Z5;refine ba (eP (k:=qc) (xs:=x6) T (g:=2) J J J J J J J J J J s4 (oO s5 3) mv J (λa6 n6 H6 s6=>ro T 9 (ar (_,_,_,_,_) [0,0,0] ⟨Z5,s6⟩ J J)))
  refine rc T 8 (ar (_,_,_,_,_) [0,0,0] ⟨Z5,s4⟩ J J)
 refine rc T 12 ?_
 cases Z5;exact p1 T J [2,1,0] ⟨a4,n4,H4,s4,J,J⟩ J
end
noncomputable section
def wN.f:Option (Option eW):=some (some (eW.mk []))
def wN.R (r:(Option eW)):bm:=λu G=> ∃(u0:Value) (G0:List Hp),ZK r u0 G0/\u=u0/\G=G0
theorem wN.c (H:wN.f=some r):
 QR 213 [] [] [] F (wN.R r):=by
 unfold wN.f at H;refine aH Tryz.func213 J J (λW=>rc T 8 (nc T J (λb1=>ro T 4 ?_)))
 cases H;refine bC (p1 T J [1,1,0] ⟨_,_,⟨b1,none,0,[],ak.nil,J,J⟩,J,J⟩ J)
def zY.f (ai:cT) (o:cT):Option Bool:=(if ai.key<o.key then(some true) else(if(ai.key==o.key)=true then(some (decide (ai.item<o.item))) else(some false))).bind λx1=>some x1
theorem zY.c (H:zY.f ai o=some r):
 QU 270 [(.agg #[(ii ai.key),(ii ai.item)]),(.agg #[(ii o.key),(ii o.item)])] [] F (bb r):=by
 unfold zY.f at H;refine aH Tryz.func270 J J (λW=>rc T 2 (nc T J (λb1=>nc T J (λb2=>ro T 3 (mq H [] [0] (λz2 (x1:Bool)=>(x1=z2,[(4,(bb x1))],[])) J J (λz2 Z1 _=>?_) ?_)))))
 ·refine rc T 2 (lf T 1 J (ro T 1 (lf T 2 J (ro T 2 (ad 10 J Z1 (λZ1=>?_) (λZ1=>?_))))))
  ·refine ro T 16 (am _ [0] (oi Z1) J J)
  refine ro T 1 (lf T 1 J (ro T 1 (lf T 2 J (ro T 2 (ab 16 J Z1 (λZ1=>?_) (λZ1=>?_))))))
  ·refine ro T 1 (lf T 1 J (ro T 1 (lf T 2 J (ro T 6 (am _ [0] (oi Z1) J J)))))
  refine ro T 10 (am _ [0] (oi Z1) J J)
 rintro _ x1 rfl H;refine rc T 1 ?_
 cases H;exact p0 T J [0] J
def ni.l0:Nat->List cT->Int->Option eW
 |0,_,_=>none
 |k5+1,x3,x4=>if x4>0 then(if(0<=x4/\x4<(aa x3:Int)) then(if(0<=(af (dm (af (x4-1)) 2))/\(af (dm (af (x4-1)) 2))<(aa x3:Int)) then((zY.f (rd x3 x4) (rd x3 (af (dm (af (x4-1)) 2)))).bind λv6=>if(!v6)=true then(some (eW.mk x3)) else(if(0<=(af (dm (af (x4-1)) 2))/\(af (dm (af (x4-1)) 2))<(aa (aG x3 (ax x4) (rd x3 (af (dm (af (x4-1)) 2)))):Int)) then(ni.l0 k5 (aG (aG x3 (ax x4) (rd x3 (af (dm (af (x4-1)) 2)))) (ax (af (dm (af (x4-1)) 2))) (rd x3 x4)) (af (dm (af (x4-1)) 2))) else none)) else none) else none) else(some (eW.mk x3))
def ni.f (h:eW):Option eW:=ni.l0 fuel h.l (af ((aa h.l:Int)-1))
def ni.R (fK:Nat) (r:eW):bm:=λu G=> ∃a0 n0 H0,ak fV 359 r.l a0 n0 H0/\u=(.tuple #[])/\G=[(cl fK 357 [(ll a0 r.l n0)]),H0]
theorem ni.c (H:ni.f h=some r) (qq:ak fV 359 h.l kV ln sI):
 QR 240 [(pp fK)] [(cl fK 357 [(ll kV h.l ln)]),sI] [] F (ni.R fK r):=by
 unfold ni.f at H;refine aH Tryz.func240 J J (λW=>rc T 5 (lf T 0 J (ro T 6 (lq [0] [2] (λ(⟨k5,x3,x4,a4,n4,H4⟩:Nat×List cT×Int×Option Addr×Nat×Hp)=>(ni.l0 k5 x3 x4=some r/\ak fV 359 x3 a4 n4 H4,[(2,(ii x4))],[(cl fK 357 [(ll a4 x3 n4)]),H4])) J J (fuel,h.l,(af ((aa h.l:Int)-1)),kV,ln,sI) [2,0,0] ⟨H,qq⟩ J J ?_))));rintro k5 ⟨x3,x4,a4,n4,H4⟩ ⟨Z1,s4⟩;rw[ni.l0] at Z1;refine rc T 7 (cd J Z1 (λZ1=>?_) (λZ1=>?_))
 ·refine rc T 13 (dy mix aA (au T J (au T J (au T J (cB T 1 J J J (au T J ?_))))));obtain⟨c3,Z1⟩:=aF Z1;obtain⟨q5,o5,e5⟩:=s4.r.addr c3.1 c3.2;refine br J J J (cV T J J J J J e5 c3.1 c3.2) (br J J J (gp T (cs:=[(ii (rd x3 x4).key),(ii (rd x3 x4).item)]) J J J J J J (iI (k:=fV) (oO s4 2) e5 c3 J)) (au T J (au T J (au T J (cB T 1 J J J (au T J ?_))))));obtain⟨c4,Z1⟩:=aF Z1;refine br J J J (cV T J J J J J e5 c4.1 c4.2) (br J J J (gp T (cs:=[(ii (rd x3 (af (dm (af (x4-1)) 2))).key),(ii (rd x3 (af (dm (af (x4-1)) 2))).item)]) J J J J J J (iI (k:=fV) (oO s4 2) e5 c4 J)) ?_);obtain⟨v6,V5,Z1⟩:=fY Z1;refine sP J J J J J J Vc J (zY.c V5) (au T J (cU (rx T 1 (cb J Z1 (λZ1=>?_) (λZ1=>?_)))))
  ·refine rc T 5 ?_
   cases Z1;exact p1 T J [1,1,0] ⟨a4,n4,H4,s4,J,J⟩ J
  refine rc T 3 (fz J (rz [25,27] mix (bU bT) (λhg pf=>ha T 25 [0,1,2] sz hg pf J (al T 3 1 sz hg pf J J J (ha T 20 [4,5,6,7] sz hg pf J (al T 8 1 sz hg pf J J J (ha T 15 [9,10,11,12] sz hg pf J (al T 13 1 sz hg pf J J J (ha T 13 [14] sz hg pf J (av 15 sz hg pf J (cV T J J J J J e5 c4.1 c4.2) (av 16 sz hg pf J (gp T (cs:=[(ii (rd x3 (af (dm (af (x4-1)) 2))).key),(ii (rd x3 (af (dm (af (x4-1)) 2))).item)]) J J J J J J (iI (k:=fV) (oO s4 2) e5 c4 J)) (ha T 8 [17,18,19] sz hg pf J (al T 20 1 sz hg pf J J J (ha T 6 [21] sz hg pf J (av 22 sz hg pf J (cV T J J J J J e5 c3.1 c3.2) (av 23 sz hg pf J (gp T (cs:=[(ii (rd x3 x4).key),(ii (rd x3 x4).item)]) J J J J J J (iI (k:=fV) (oO s4 2) e5 c3 J)) (av 24 sz hg pf J (cV T J J J J J e5 c3.1 c3.2) (ao 25 (lD (k:=fV) T 2 0 (rd x3 (af (dm (af (x4-1)) 2))) J J J J J J s4 e5 c3 J J J (λH6 s6=>kg [0,2,3,30,31,32,33,35,36,37,38,40,41,42,43,45,46,47,48,49,50,52,53,54,55] [0,1] [0,1,0] [(34,(ll a4 (aG x3 (ax x4) (rd x3 (af (dm (af (x4-1)) 2)))) n4)),(39,(ll a4 (aG x3 (ax x4) (rd x3 (af (dm (af (x4-1)) 2)))) n4)),(44,(ll a4 (aG x3 (ax x4) (rd x3 (af (dm (af (x4-1)) 2)))) n4)),(51,(ll a4 (aG x3 (ax x4) (rd x3 (af (dm (af (x4-1)) 2)))) n4))] [(cl fK 357 [(ll a4 (aG x3 (ax x4) (rd x3 (af (dm (af (x4-1)) 2)))) n4)])] J J ⟨dP,dP,dP,dP,trivial⟩ dP (an sl (ao 26 ?_))))))))))))))))))))));obtain⟨c7,Z1⟩:=aF Z1;refine l8 J (cV T J J J J J e5 c7.1 c7.2) (an sl (ao 27 (lD (k:=fV) T 1 0 (rd x3 x4) J J J J J J s6 e5 c7 J J J (λH7 s7=>kg [0,2,3,30,31,32,33,35,36,37,38,40,41,42,43,45,46,47,48,49,50,52,53,54,55,56] [0,0] [0,0,0] [(34,(ll a4 (aG (aG x3 (ax x4) (rd x3 (af (dm (af (x4-1)) 2)))) (ax (af (dm (af (x4-1)) 2))) (rd x3 x4)) n4)),(39,(ll a4 (aG (aG x3 (ax x4) (rd x3 (af (dm (af (x4-1)) 2)))) (ax (af (dm (af (x4-1)) 2))) (rd x3 x4)) n4)),(44,(ll a4 (aG (aG x3 (ax x4) (rd x3 (af (dm (af (x4-1)) 2)))) (ax (af (dm (af (x4-1)) 2))) (rd x3 x4)) n4)),(51,(ll a4 (aG (aG x3 (ax x4) (rd x3 (af (dm (af (x4-1)) 2)))) (ax (af (dm (af (x4-1)) 2))) (rd x3 x4)) n4))] [(cl fK 357 [(ll a4 (aG (aG x3 (ax x4) (rd x3 (af (dm (af (x4-1)) 2)))) (ax (af (dm (af (x4-1)) 2))) (rd x3 x4)) n4)])] J J ⟨dP,dP,dP,dP,trivial⟩ dP (an sl (ae (rx T 7 (ar (_,_,_,_,_) [0,1,0] ⟨Z1,s7⟩ J J))))))))
 refine rc T 4 (jB ?_)
 cases Z1;exact p1 T J [1,1,0] ⟨a4,n4,H4,s4,J,J⟩ J
def nh.f (h:eW) (key:Int) (item:Int):Option eW:=if(aa h.l+1<=1099511627776) then((ni.f (eW.mk (h.l++[(cT.mk key item)]))).bind λv1=>some v1) else none
def nh.R (fK:Nat) (r:eW):bm:=λu G=> ∃a0 n0 H0,ak fV 359 r.l a0 n0 H0/\u=(.tuple #[])/\G=[(cl fK 357 [(ll a0 r.l n0)]),H0]
theorem nh.c (H:nh.f h key item=some r) (qq:ak fV 359 h.l kV ln sI):
 QR 217 [(pp fK),(ii key),(ii item)] [(cl fK 357 [(ll kV h.l ln)]),sI] [] F (nh.R fK r):=by
 unfold nh.f at H;refine aH Tryz.func217 J J (λW=>rc T 7 (fj J (rc T 8 (lf T 0 J (ro T 3 (ba (dp (k:=fV) T [(cT.mk key item)] J J J J J J J J J (λa3 H3 s3=>?_))))))));obtain⟨c1,H⟩:=aF H;refine ba (eP (k:=fV) (xs:=h.l) T (g:=1) J J J J J J J J J J qq (oO s3 3) c1 J (λa4 n4 H4 s4=>ro T 2 (sg T 0 J (ro T 4 (kr (ni.R fK) [] [0,0] J aeY H (ni.c (h:=(eW.mk (h.l++[(cT.mk key item)]))) · s4) (λv1 H=>?_))))));rintro _ _ ⟨a5,n5,H5,s5,rfl,rfl⟩;refine fz J (ro T 1 (jB ?_))
 cases H;exact p1 T J [2,2,0] ⟨a5,n5,H5,s5,J,J⟩ J
def Db.f (h:eW):Option Int:=some (aa h.l:Int)
theorem Db.c (H:Db.f h=some r) (qq:ak fV 359 h.l kV ln sI):
 QU 271 [(pp fK)] [(cl fK 357 [(ll kV h.l ln)]),sI] F (ii r):=by
 unfold Db.f at H;refine aH Tryz.func271 J J (λW=>rc T 12 (fj J (rc T 7 (lf T 0 J (ro T 5 ?_)))))
 cases H;exact p0 T J [0,0,0] J
def Dc.f (h:eW):Option (Int×Int×Bool):=(Db.f h).bind λv1=>if(v1==0)=true then(some (0,0,false)) else(if(0<=(0:Int)/\(0:Int)<(aa h.l:Int)) then(some ((rd h.l 0).key,(rd h.l 0).item,true)) else none)
theorem Dc.c (H:Dc.f h=some r) (qq:ak fV 359 h.l kV ln sI):
 QU 241 [(pp fK)] [(cl fK 357 [(ll kV h.l ln)]),sI] F (.tuple #[(ii r.1),(ii r.2.1),(bb r.2.2)]):=by
 unfold Dc.f at H;refine aH Tryz.func241 J J (λW=>rc T 11 (k [0,0] J afb H (Db.c · qq) (λv1 H=>ro T 3 (cb J H (λH=>?_) (λH=>?_)))))
 ·refine rc T 9 ?_
  cases H;exact p0 T J [0,0,0] J
 refine rc T 3 (dy mix aA (au T J (au T J (au T J (cB T 0 J J J ?_)))));obtain⟨c3,H⟩:=aF H;obtain⟨q3,o3,e3⟩:=qq.r.addr c3.1 c3.2;refine br J J J (cV T J J J J J e3 c3.1 c3.2) (au T J (br J J J (cS T J J J J (iu (k:=fV) (oO qq 1) e3 c3 0 J)) (au T J (au T J (au T J (cB T 0 J J J (br J J J (cV T J J J J J e3 c3.1 c3.2) (au T J (br J J J (cS T J J J J (iu (k:=fV) (oO qq 1) e3 c3 1 J)) (au T J (au T J (au T J (cU (rx T 2 ?_))))))))))))))
 cases H;exact p0 T J [0,0,0] J
def gr.l1:Nat->List cT->Int->Int->Int->Option (Sum eW ((List cT)×Int))
 |0,_,_,_,_=>none
 |vw+1,x3,x4,bj,bA=>(if bA<=(af ((af (2*x4))+2)) then(some (decide (bA<(aa x3:Int)))) else(some false)).bind λbd=>if bd=true then(if(0<=bA/\bA<(aa x3:Int)) then(if(0<=bj/\bj<(aa x3:Int)) then((zY.f (rd x3 bA) (rd x3 bj)).bind λcP=>if cP=true then(gr.l1 vw x3 x4 bA (af (bA+1))) else(gr.l1 vw x3 x4 bj (af (bA+1)))) else none) else none) else(if(bj==x4)=true then(some (Sum.inl (eW.mk x3))) else(if(0<=bj/\bj<(aa x3:Int)) then(if(0<=x4/\x4<(aa x3:Int)) then(if(0<=bj/\bj<(aa (aG x3 (ax x4) (rd x3 bj)):Int)) then(some (Sum.inr ((aG (aG x3 (ax x4) (rd x3 bj)) (ax bj) (rd x3 x4)),bj))) else none) else none) else none))
def gr.l0:Nat->List cT->Int->Option eW
 |0,_,_=>none
 |k5+1,x3,x4=>(gr.l1 fuel x3 x4 x4 (af ((af (2*x4))+1))).bind λzz=>match zz with |Sum.inl q=>some q |Sum.inr (x6,x7)=>gr.l0 k5 x6 x7
def gr.f (h:eW):Option eW:=gr.l0 fuel h.l 0
def gr.R (fK:Nat) (r:eW):bm:=λu G=> ∃a0 n0 H0,ak fV 359 r.l a0 n0 H0/\u=(.tuple #[])/\G=[(cl fK 357 [(ll a0 r.l n0)]),H0]
theorem gr.c (H:gr.f h=some r) (qq:ak fV 359 h.l kV ln sI):
 QR 242 [(pp fK)] [(cl fK 357 [(ll kV h.l ln)]),sI] [] F (gr.R fK r):=by
 unfold gr.f at H;refine aH Tryz.func242 J J (λW=>rc T 6 (lq [0] [2] (λ(⟨k5,x3,x4,a4,n4,H4⟩:Nat×List cT×Int×Option Addr×Nat×Hp)=>(gr.l0 k5 x3 x4=some r/\ak fV 359 x3 a4 n4 H4,[(2,(ii x4))],[(cl fK 357 [(ll a4 x3 n4)]),H4])) J J (fuel,h.l,0,kV,ln,sI) [2,0,0] ⟨H,qq⟩ J J ?_));rintro k5 ⟨x3,x4,a4,n4,H4⟩ ⟨Z1,s4⟩;rw[gr.l0] at Z1;refine mn Z1 [0] [0] (λz8 (⟨x6,x7,a5,n5,H5⟩:List cT×Int×Option Addr×Nat×Hp)=>((Sum.inr (x6,x7))=z8/\ak fV 359 x6 a5 n5 H5,[(2,(ii x7))],[(cl fK 357 [(ll a5 x6 n5)]),H5])) J J (λz8 Z2 Z1=>?_) ?_
 ·refine rc T 17 (lq [0,2] [0,0,0] (λ(⟨vw,bj,bA⟩:Nat×Int×Int)=>(gr.l1 vw x3 x4 bj bA=some z8,[(3,(ii bj)),(4,(ii bA))],[])) J J (fuel,x4,(af ((af (2*x4))+1))) [0,0,0] Z2 J J ?_);rintro vw ⟨bj,bA⟩ Z3;replace Z3:gr.l1 (vw+1) x3 x4 bj bA=some z8:=Z3;rw[gr.l1] at Z3;refine rc T 1 (mq Z3 [0,2,3,4] [0,0,0] (λCm (bd:Bool)=>(bd=Cm,[(22,(bb bd))],[])) J J (λCm Z4 _=>?_) ?_)
  ·refine rc T 7 (ad 14 J Z4 (λZ4=>?_) (λZ4=>?_))
   ·refine ro T 4 (lf T 1 J (ro T 5 (am _ [0,0,0] (oi Z4) J J)))
   refine ro T 10 (am _ [0,0,0] (oi Z4) J J)
  rintro _ bd rfl Z3;refine cb J Z3 (λZ3=>?_) (λZ3=>?_)
  ·refine rc T 5 (dy mix aA (au T J (au T J (au T J (cB T 1 J J J (au T J ?_))))));obtain⟨c7,Z3⟩:=aF Z3;obtain⟨q6,o6,e6⟩:=s4.r.addr c7.1 c7.2;refine br J J J (cV T J J J J J e6 c7.1 c7.2) (br J J J (gp T (cs:=[(ii (rd x3 bA).key),(ii (rd x3 bA).item)]) J J J J J J (iI (k:=fV) (oO s4 2) e6 c7 J)) (au T J (au T J (au T J (cB T 1 J J J (au T J ?_))))));obtain⟨c8,Z3⟩:=aF Z3;refine br J J J (cV T J J J J J e6 c8.1 c8.2) (br J J J (gp T (cs:=[(ii (rd x3 bj).key),(ii (rd x3 bj).item)]) J J J J J J (iI (k:=fV) (oO s4 2) e6 c8 J)) ?_);obtain⟨cP,V9,Z3⟩:=fY Z3;refine sP J J J J J J Vc J (zY.c V9) (cU (rx T 1 (cb J Z3 (λZ3=>?_) (λZ3=>?_))))
   ·refine rc T 12 (ar (_,_) [0,0,0] Z3 J J)
   refine rc T 9 (ar (_,_) [0,0,0] Z3 J J)
  refine rc T 13 (cb J Z3 (λZ3=>?_) (λZ3=>?_))
  ·refine rc T 6 ?_;obtain rfl:=Option.some.inj Z3;obtain rfl:=Option.some.inj (show some (eW.mk x3)=some r from Z1)
   exact p1 T J [1,1,0] ⟨a4,n4,H4,s4,J,J⟩ J
  refine rc T 3 (fz J (rz [25,27] mix (bU bT) (λhg pf=>ha T 25 [0,1,2] sz hg pf J (al T 3 1 sz hg pf J J J (ha T 20 [4,5,6,7] sz hg pf J (al T 8 1 sz hg pf J J J (ha T 15 [9,10,11,12] sz hg pf J (al T 13 1 sz hg pf J J J (ha T 13 [14] sz hg pf J ?_)))))))));obtain⟨iF,Z3⟩:=aF Z3;obtain⟨q7,o7,e7⟩:=s4.r.addr iF.1 iF.2;refine av 15 sz hg pf J (cV T J J J J J e7 iF.1 iF.2) (av 16 sz hg pf J (gp T (cs:=[(ii (rd x3 bj).key),(ii (rd x3 bj).item)]) J J J J J J (iI (k:=fV) (oO s4 2) e7 iF J)) (ha T 8 [17,18,19] sz hg pf J (al T 20 1 sz hg pf J J J (ha T 6 [21] sz hg pf J ?_))));obtain⟨jC,Z3⟩:=aF Z3;refine av 22 sz hg pf J (cV T J J J J J e7 jC.1 jC.2) (av 23 sz hg pf J (gp T (cs:=[(ii (rd x3 x4).key),(ii (rd x3 x4).item)]) J J J J J J (iI (k:=fV) (oO s4 2) e7 jC J)) (av 24 sz hg pf J (cV T J J J J J e7 jC.1 jC.2) (ao 25 (lD (k:=fV) T 2 0 (rd x3 bj) J J J J J J s4 e7 jC J J J (λH8 s8=>kg [0,2,3,43,44,45,46,48,49,50,51,53,54,55,56,58,59,60,61,62,63,65,66,67,68] [0,1] [0,1,0] [(47,(ll a4 (aG x3 (ax x4) (rd x3 bj)) n4)),(52,(ll a4 (aG x3 (ax x4) (rd x3 bj)) n4)),(57,(ll a4 (aG x3 (ax x4) (rd x3 bj)) n4)),(64,(ll a4 (aG x3 (ax x4) (rd x3 bj)) n4))] [(cl fK 357 [(ll a4 (aG x3 (ax x4) (rd x3 bj)) n4)])] J J ⟨dP,dP,dP,dP,trivial⟩ dP (an sl (ao 26 ?_)))))));obtain⟨mv,Z3⟩:=aF Z3;refine l8 J (cV T J J J J J e7 mv.1 mv.2) (an sl (ao 27 (lD (k:=fV) T 1 0 (rd x3 x4) J J J J J J s8 e7 mv J J J (λH9 s9=>kg [0,2,3,43,44,45,46,48,49,50,51,53,54,55,56,58,59,60,61,62,63,65,66,67,68,69] [0,0] [0,0,0] [(47,(ll a4 (aG (aG x3 (ax x4) (rd x3 bj)) (ax bj) (rd x3 x4)) n4)),(52,(ll a4 (aG (aG x3 (ax x4) (rd x3 bj)) (ax bj) (rd x3 x4)) n4)),(57,(ll a4 (aG (aG x3 (ax x4) (rd x3 bj)) (ax bj) (rd x3 x4)) n4)),(64,(ll a4 (aG (aG x3 (ax x4) (rd x3 bj)) (ax bj) (rd x3 x4)) n4))] [(cl fK 357 [(ll a4 (aG (aG x3 (ax x4) (rd x3 bj)) (ax bj) (rd x3 x4)) n4)])] J J ⟨dP,dP,dP,dP,trivial⟩ dP (an sl (ae (rx T 7 (am (_,_,_,_,_) [0,1,0] ⟨oi Z3,s9⟩ J J))))))))
 rintro _ ⟨x6,x7,a5,n5,H5⟩ ⟨rfl,s5⟩ Z1;refine rx T 1 (ar (_,_,_,_,_) [0,0,0] ⟨Z1,s5⟩ J J)
def ng.f (h:eW):Option (Int×Int×Bool×eW):=(Dc.f h).bind λv1=>if v1.2.2=true then(if(0<=(af ((aa h.l:Int)-1))/\(af ((aa h.l:Int)-1))<(aa h.l:Int)) then(if(0<=(0:Int)/\(0:Int)<(aa h.l:Int)) then(if(0<=(0:Int)/\(0:Int)<=(af ((aa h.l:Int)-1))/\(af ((aa h.l:Int)-1))<=(aa (aG h.l (ax 0) (rd h.l (af ((aa h.l:Int)-1)))):Int)) then((gr.f (eW.mk (aB (aG h.l (ax 0) (rd h.l (af ((aa h.l:Int)-1)))) 0 (af ((aa h.l:Int)-1))))).bind λv2=>some (v1.1,v1.2.1,v1.2.2,v2)) else none) else none) else none) else(some (v1.1,v1.2.1,v1.2.2,h))
def ng.R (fK:Nat) (r:(Int×Int×Bool×eW)):bm:=λu G=> ∃a0 n0 H0,ak fV 359 r.2.2.2.l a0 n0 H0/\u=(.tuple #[(ii r.1),(ii r.2.1),(bb r.2.2.1)])/\G=[(cl fK 357 [(ll a0 r.2.2.2.l n0)]),H0]
theorem ng.c (H:ng.f h=some r) (qq:ak fV 359 h.l kV ln sI):
 QR 218 [(pp fK)] [(cl fK 357 [(ll kV h.l ln)]),sI] [] F (ng.R fK r):=by
 unfold ng.f at H;refine aH Tryz.func218 J J (λW=>rc T 10 (k [0,0] J aeZ H (Dc.c · qq) (λv1 H=>ro T 15 (cb J H (λH=>?_) (λH=>?_)))))
 ·refine rc T 5 (lf T 0 J (ro T 6 (fz J (rz [12] mix (bU bT) (λhg pf=>ha T 10 [0,1,2] sz hg pf J (al T 3 0 sz hg pf J J J (ha T 6 [4,5,6] sz hg pf J (al T 7 0 sz hg pf J J J (ha T 4 [8] sz hg pf J ?_)))))))));obtain⟨c3,H⟩:=aF H;obtain⟨q3,o3,e3⟩:=qq.r.addr c3.1 c3.2;refine av 9 sz hg pf J (cV T J J J J J e3 c3.1 c3.2) (av 10 sz hg pf J (gp T (cs:=[(ii (rd h.l (af ((aa h.l:Int)-1))).key),(ii (rd h.l (af ((aa h.l:Int)-1))).item)]) J J J J J J (iI (k:=fV) (oO qq 1) e3 c3 J)) ?_);obtain⟨c4,H⟩:=aF H;refine av 11 sz hg pf J (cV T J J J J J e3 c4.1 c4.2) (ao 12 (lD (k:=fV) T 1 0 (rd h.l (af ((aa h.l:Int)-1))) J J J J J J qq e3 c4 J J J (λH4 s4=>kg [0,2,3,4,5,19,20,21,23,24,25,27,28,29,30] [1,1] [1,1,0] [(22,(ll kV (aG h.l (ax 0) (rd h.l (af ((aa h.l:Int)-1)))) ln)),(26,(ll kV (aG h.l (ax 0) (rd h.l (af ((aa h.l:Int)-1)))) ln))] [(cl fK 357 [(ll kV (aG h.l (ax 0) (rd h.l (af ((aa h.l:Int)-1)))) ln)])] J J ⟨dP,dP,trivial⟩ dP (an sl (ae (rx T 7 (lf T 2 J (ro T 1 ?_))))))));obtain⟨c5,H⟩:=aF H;refine bz J (lb T J J J J J J c5 s4.ck) (ro T 2 (sg T 2 J (ro T 4 (kr (gr.R fK) [] [2,0] J ae0 H (gr.c (h:=(eW.mk (aB (aG h.l (ax 0) (rd h.l (af ((aa h.l:Int)-1)))) 0 (af ((aa h.l:Int)-1))))) · (ak.pre s4 c5)) (λv2 H=>?_)))));rintro _ _ ⟨a5,n5,H5,s5,rfl,rfl⟩;refine fz J (ro T 1 (ks [2,3,4] J (rx T 12 ?_)))
  cases H;exact p1 T J [1,1,0] ⟨a5,n5,H5,s5,J,J⟩ J
 refine rc T 13 ?_
 cases H;exact p1 T J [0,0,0] ⟨kV,ln,sI,qq,J,J⟩ J
end
noncomputable section
def xj.f (ai:Int):Option (Option fa):=if((decide (ai<0))||(decide (ai>1099511627776)))=true then(some none) else(some (some (fa.mk ai 0 (cy 256 (default:kn)))))
def xj.R (r:(Option fa)):bm:=λu G=> ∃(u0:Value) (G0:List Hp),ZO r u0 G0/\u=u0/\G=G0
theorem xj.c (H:xj.f ai=some r):
 QR 247 [(ii ai)] [] [] F (xj.R r):=by
 unfold xj.f at H;refine aH Tryz.func247 J J (λW=>rc T 11 (go T [3,4,5] 5 [0] 8 J J J J J J J (ro T 2 (cb J H (λH=>?_) (λH=>?_)))))
 ·refine rc T 7 ?_
  cases H;exact p1 T J [0] ⟨_,_,⟨J,J⟩,J,J⟩ J
 refine rc T 6 (ba (aaT (kd:=Yb) T [(ii ai),(ii 0)] 256 (default:kn) [nl,(ii 0)] J J J J ⟨none,0,[],(ak.nil (k:=(Fl.int .i64)) (E:=3)),J,J⟩ (λb1 H1 s1=>ro T 4 ?_)))
 cases H;exact p1 T J [1,0] ⟨_,_,⟨b1,H1,(And.intro s1 (List.length_replicate ..)),J,J⟩,J,J⟩ J
def xk.f (ai:fa):Option Int:=some ai.len
theorem xk.c (H:xk.f ai=some r) (cZ:kT ai aY dx):
 QU 274 [(pp aY)] [dx] F (ii r):=by
 unfold xk.f at H;refine aH Tryz.func274 J J (λW=>rc T 12 (fj J (rc T 7 (lg T J (BB (j:=0) J cZ.1 J) (ro T 4 ?_)))))
 cases H;exact p0 T J [0,0] J
def yS.f (ai:fa) (key:Int):Option (Bool×fa):=(if ai.len>0 then(some true) else(some ((decide (key<ai.bc))||(decide (key>1099511627776))))).bind λx1=>if x1=true then(some (false,ai)) else(some (true,(fa.mk key ai.len ai.buckets)))
def yS.R (oD:Nat) (r:(Bool×fa)):bm:=λu G=> ∃(H0:Hp),kT r.2 oD H0/\u=(bb r.1)/\G=[H0]
theorem yS.c (H:yS.f ai key=some r) (cZ:kT ai aY dx):
 QR 290 [(pp aY),(ii key)] [dx] [] F (yS.R aY r):=by
 unfold yS.f at H;refine aH Tryz.func290 J J (λW=>rc T 6 (mq H [0,1] [1,0] (λz2 (x1:Bool)=>(x1=z2,[(25,(bb x1))],[])) J J (λz2 Z1 _=>?_) ?_))
 ·refine rc T 7 (lg T J (BB (j:=0) J cZ.1 J) (ro T 3 (ad 14 J Z1 (λZ1=>?_) (λZ1=>?_))))
  ·refine ro T 13 (am _ [1,0] (oi Z1) J J)
  refine ro T 4 (lg T J (BB (j:=0) J cZ.1 J) (ro T 3 (go T [18,19,20] 22 [0,1] 25 J J J J J J J (ro T 2 (am _ [1,0] (oi Z1) J J)))))
 rintro _ x1 rfl H;refine cb J H (λH=>?_) (λH=>?_)
 ·refine rc T 7 ?_
  cases H;exact p1 T J [1,0] ⟨dx,cZ,J,J⟩ J
 refine rc T 8 (ba (J_ T 1 [(ii key),(ii ai.len)] J J J J J J cZ.1 J J J J (λH2 s2=>ro T 8 ?_)))
 cases H;exact p1 T J [1,0] ⟨H2,(And.intro s2 cZ.2),J,J⟩ J
def AB.f (b:kn) (item:Int):Option kn:=if(aa b.items+1<=1099511627776) then(some (kn.mk (b.items++[item]) b.gone)) else none
def AB.R (wq:Nat) (NG:TypeId) (NU NV:List Value) (r:kn):bm:=λu G=> ∃a0 n0 H0,ak (Fl.int .i64) 3 r.items a0 n0 H0/\u=(.tuple #[])/\G=[[(wq,Obj.cells (NU++(([(ll a0 r.items n0),(ii r.gone)]:List Value)++NV)).toArray NG (0,0))],H0]
theorem AB.c (H:AB.f b item=some r) (AG:ak (Fl.int .i64) 3 b.items xP uz Cs):
 QR 302 [(.pointer (some ⟨wq,aa DV+0,none⟩)),(ii item)] [[(wq,Obj.cells (DV++(([(ll xP b.items uz),(ii b.gone)]:List Value)++Mc)).toArray JY (0,0))],Cs] [] F (AB.R wq JY DV Mc r):=by
 unfold AB.f at H;refine aH Tryz.func302 J J (λW=>rc T 5 (lg T J (Dr (j:=0) J 0 J) (ro T 1 (ba (dp (k:=(Fl.int .i64)) T [item] J J J J J J J J J (λa3 H3 s3=>?_))))));obtain⟨c1,H⟩:=aF H;refine ba (eP (k:=(Fl.int .i64)) (xs:=b.items) T (g:=1) J J J J J J J J J J AG (oO s3 3) c1 J (λa4 n4 H4 s4=>ro T 2 (ba (Kc T 0 0 [(ll a4 (b.items++[item]) n4),(ii b.gone)] J J J J J J J J J J ?_))));refine ro T 1 (jB ?_)
 cases H;exact p1 T J [0,0,0] ⟨a4,n4,H4,s4,J,J⟩ J
def uD.f (ai:fa) (key:Int) (item:Int):Option (Bool×fa):=(if key<ai.bc then(some true) else(some (decide ((af (key-ai.bc))≥256)))).bind λx1=>if x1=true then(some (false,ai)) else(if(0<=(fJ key 256)/\(fJ key 256)<(aa ai.buckets:Int)) then((AB.f (rd ai.buckets (fJ key 256)) item).bind λv3=>some (true,(fa.mk ai.bc (af (ai.len+1)) (aG ai.buckets (ax (fJ key 256)) v3)))) else none)
def uD.R (oD:Nat) (r:(Bool×fa)):bm:=λu G=> ∃(H0:Hp),kT r.2 oD H0/\u=(bb r.1)/\G=[H0]
theorem uD.c (H:uD.f ai key item=some r) (cZ:kT ai aY dx):
 QR 291 [(pp aY),(ii key),(ii item)] [dx] [] F (uD.R aY r):=by
 unfold uD.f at H;refine aH Tryz.func291 J J (λW=>rc T 6 (mq H [0,1,2] [1,0] (λz2 (x1:Bool)=>(x1=z2,[(25,(bb x1))],[])) J J (λz2 Z1 _=>?_) ?_))
 ·refine rc T 8 (lg T J (BB (j:=0) J cZ.1 J) (ro T 3 (ad 17 J Z1 (λZ1=>?_) (λZ1=>?_))))
  ·refine ro T 10 (am _ [1,0] (oi Z1) J J)
  refine ro T 4 (lg T J (BB (j:=0) J cZ.1 J) (ro T 5 (am _ [1,0] (oi Z1) J J)))
 rintro _ x1 rfl H;refine cb J H (λH=>?_) (λH=>?_)
 ·refine rc T 7 ?_
  cases H;exact p1 T J [1,0] ⟨dx,cZ,J,J⟩ J
 refine rc T 3 ?_;obtain⟨c4,H⟩:=aF H;refine Nl (j:=1) J cZ.1 c4 (λp2_ q2_ _ H3 _ o2_ Zh=>?_);obtain⟨a5,n5,H5,s5,rfl,rfl⟩:=o2_;refine bY (As:=[H5]) 3 J (rc T 6 (bz J (KE T J J J J J (by rw[cZ.2] at c4;exact c4) (by rw[xJ.at Zh];rfl)) (ro T 1 ?_)))
 refine kr (AB.R aY 396 p2_ q2_) [] [1,2] J afq H (AB.c · s5) (λv3 H=>?_);rintro _ _ ⟨a6,n6,H6,s6,rfl,rfl⟩;refine fz J (ro T 1 (gM [3] J (GK (j:=2) (q1:=1) (q2:=3) v3 J Zh J J J J J ⟨a6,n6,H6,s6,J,J⟩ (λH8 s8=>rx T 6 (lg T J (BB (j:=2) J s8 J) (ro T 3 (ba (J_ T 2 [(ii ai.bc),(ii (af (ai.len+1)))] J J J J J J s8 J J J J (λH9 s9=>ro T 8 ?_)))))))))
 cases H;exact p1 T J [2,0] ⟨H9,(And.intro s9 (Mp cZ.2)),J,J⟩ J
def yT.f (b:kn):Option Bool:=some (b.gone==(aa b.items:Int))
theorem yT.c (H:yT.f b=some r) (AG:ak (Fl.int .i64) 3 b.items xP uz Cs):
 QU 292 [(.pointer (some ⟨wq,aa DV+0,none⟩))] [[(wq,Obj.cells (DV++(([(ll xP b.items uz),(ii b.gone)]:List Value)++Mc)).toArray JY (0,0))],Cs] F (bb r):=by
 unfold yT.f at H;refine aH Tryz.func292 J J (λW=>rc T 6 (dy mix aA (au T J (au T J (au T J (br J J J (cS T J J J J (Dr (j:=0) J 1 J)) (au T J (au T J (au T J (br J J J (cS T J J J J (Dr (j:=0) J 0 J)) (au T J (au T J (au T J (cU (rx T 2 ?_)))))))))))))))
 cases H;exact p0 T J [0,0,0] J
def tA.f (b:kn):Option (Int×kn):=if(0<=b.gone/\b.gone<(aa b.items:Int)) then((yT.f (kn.mk b.items (af (b.gone+1)))).bind λv1=>if v1=true then(if(0<=(0:Int)/\(0:Int)<=(0:Int)/\(0:Int)<=(aa b.items:Int)) then(some ((rd b.items b.gone),(kn.mk (aB b.items 0 0) 0))) else none) else(some ((rd b.items b.gone),(kn.mk b.items (af (b.gone+1)))))) else none
def tA.R (wq:Nat) (NG:TypeId) (NU NV:List Value) (r:(Int×kn)):bm:=λu G=> ∃a0 n0 H0,ak (Fl.int .i64) 3 r.2.items a0 n0 H0/\u=(ii r.1)/\G=[[(wq,Obj.cells (NU++(([(ll a0 r.2.items n0),(ii r.2.gone)]:List Value)++NV)).toArray NG (0,0))],H0]
theorem tA.c (H:tA.f b=some r) (AG:ak (Fl.int .i64) 3 b.items xP uz Cs):
 QR 293 [(.pointer (some ⟨wq,aa DV+0,none⟩))] [[(wq,Obj.cells (DV++(([(ll xP b.items uz),(ii b.gone)]:List Value)++Mc)).toArray JY (0,0))],Cs] [] F (tA.R wq JY DV Mc r):=by
 unfold tA.f at H;refine aH Tryz.func293 J J (λW=>rc T 6 (dy mix aA (au T J (au T J (au T J (br J J J (cS T J J J J (Dr (j:=0) J 0 J)) (au T J (au T J (au T J (br J J J (cS T J J J J (Dr (j:=0) J 1 J)) ?_))))))))));obtain⟨c1,H⟩:=aF H;obtain⟨q3,o3,e3⟩:=AG.r.addr c1.1 c1.2;refine br J J J (cV T J J J J J e3 c1.1 c1.2) (br J J J (cS T J J J J (iu (k:=(Fl.int .i64)) (oO AG 1) e3 c1 0 J)) (au T J (cU (rx T 6 (lg T J (Dr (j:=0) J 1 J) (ro T 3 (ba (Kc T 0 1 [(ll xP b.items uz),(ii (af (b.gone+1)))] J J J J J J J J J J ?_))))))));refine ro T 6 (k [0,0] J Vg H (yT.c (b:=(kn.mk b.items (af (b.gone+1)))) · AG) (λv1 H=>ro T 2 (cb J H (λH=>?_) (λH=>?_))))
 ·refine rc T 6 (lg T J (Dr (j:=0) J 0 J) ?_);obtain⟨c4,H⟩:=aF H;refine bz J (lb T J J J J J J c4 AG.ck) (ro T 2 (ba (Kc T 0 0 [(ll (gy xP uz (ax 0) 1) (aB b.items 0 0) (uz-ax 0)),(ii (af (b.gone+1)))] J J J J J J J J J J ?_)));refine ro T 2 (ba (Kc T 0 1 [(ll (gy xP uz (ax 0) 1) (aB b.items 0 0) (uz-ax 0)),(ii 0)] J J J J J J J J J J ?_));refine ro T 9 ?_
  cases H;exact p1 T J [0,0,0] ⟨(gy xP uz (ax 0) 1),(uz-ax 0),Cs,(ak.pre AG c4),J,J⟩ J
 refine rc T 9 ?_
 cases H;exact p1 T J [0,0,0] ⟨xP,uz,Cs,AG,J,J⟩ J
def pH.l0:Nat->fa->Option fa
 |0,_=>none
 |k6+1,x5=>if(0<=(fJ x5.bc 256)/\(fJ x5.bc 256)<(aa x5.buckets:Int)) then((yT.f (rd x5.buckets (fJ x5.bc 256))).bind λv7=>if v7=true then(pH.l0 k6 (fa.mk (af (x5.bc+1)) x5.len x5.buckets)) else(some x5)) else none
def pH.f (ai:fa):Option (Int×Int×Bool×fa):=(xk.f ai).bind λv1=>if(v1==0)=true then(some (0,0,false,ai)) else((pH.l0 fuel ai).bind λx2=>if(0<=(fJ x2.bc 256)/\(fJ x2.bc 256)<(aa x2.buckets:Int)) then((tA.f (rd x2.buckets (fJ x2.bc 256))).bind λv8=>some (x2.bc,v8.1,true,(fa.mk x2.bc (af (x2.len-1)) (aG x2.buckets (ax (fJ x2.bc 256)) v8.2)))) else none)
def pH.R (oD:Nat) (r:(Int×Int×Bool×fa)):bm:=λu G=> ∃(H0:Hp),kT r.2.2.2 oD H0/\u=(.tuple #[(ii r.1),(ii r.2.1),(bb r.2.2.1)])/\G=[H0]
theorem pH.c (H:pH.f ai=some r) (cZ:kT ai aY dx):
 QR 275 [(pp aY)] [dx] [] F (pH.R aY r):=by
 unfold pH.f at H;refine aH Tryz.func275 J J (λW=>rc T 11 (k [0] J OU H (xk.c · cZ) (λv1 H=>ro T 3 (cb J H (λH=>?_) (λH=>?_)))))
 ·refine rc T 9 ?_
  cases H;exact p1 T J [0,0] ⟨dx,cZ,J,J⟩ J
 refine rc T 2 (mq H [0] [1] (λz3 (⟨x2,H2⟩:fa×Hp)=>(x2=z3/\kT x2 aY H2,[],[H2])) J J (λz3 Z3 _=>?_) ?_)
 ·refine rc T 1 (lq [0] [1] (λ(⟨k6,x5,H4⟩:Nat×fa×Hp)=>(pH.l0 k6 x5=some z3/\kT x5 aY H4,[],[H4])) J J (fuel,ai,dx) [1,0] ⟨Z3,cZ⟩ J J ?_);rintro k6 ⟨x5,H4⟩ ⟨Z4,s4⟩;rw[pH.l0] at Z4;refine rc T 2 ?_;obtain⟨c5,Z4⟩:=aF Z4;refine Nl (j:=1) J s4.1 c5 (λp5_ q5_ _ H6 _ o5_ Rl=>?_);obtain⟨a8,n8,H8,s8,rfl,rfl⟩:=o5_;refine bY (As:=[H8]) 3 J (dy mix aA ?_)
  iterate 4 refine au T J ?_
  refine br J J J (cS T J J J J (Ft (j:=1) J Rl J)) (au T J (au T J (au T J (br J J J (KE T J J J J J (by rw[s4.2] at c5;exact c5) (by rw[xJ.at Rl];rfl)) ?_))))
  obtain⟨v7,V6,Z4⟩:=fY Z4;refine xS [1,2] J J J J J J Vg J (yT.c V6 s8) (cU (gM [3] J (aaU (j:=1) (q1:=2) (q2:=3) J Rl J J J J J ⟨a8,n8,H8,s8,J,J⟩ (λcu bX=>rx T 1 (cb J Z4 (λZ4=>?_) (λZ4=>?_))))))
  ·refine rc T 7 (lg T J (BB (j:=1) J bX J) (ro T 3 (ba (J_ T 1 [(ii (af (x5.bc+1))),(ii x5.len)] J J J J J J bX J J J J (λcM dr=>ro T 3 (ar (_,_) [0,0] ⟨Z4,(And.intro dr s4.2)⟩ J J))))))
  refine rc T 5 (am (_,_) [0,0] ⟨oi Z4,(And.intro bX s4.2)⟩ J J)
 rintro _ ⟨x2,H2⟩ ⟨rfl,s2⟩ H;refine rc T 5 (lg T J (BB (j:=1) J s2.1 J) (ro T 3 (ba (J_ T 1 [(ii x2.bc),(ii (af (x2.len-1)))] J J J J J J s2.1 J J J J (λdL dS=>ro T 3 ?_)))));obtain⟨c8,H⟩:=aF H;refine Nl (j:=1) J dS c8 (λQq Qv _ gf _ ah6 zk=>?_);obtain⟨kD,n16,gB,gw,rfl,rfl⟩:=ah6;refine bY (As:=[gB]) 3 J (ks [0] J (fz J (rg [] [0,1] mix (bU bT) (λhg pf=>ha T 8 [0,1,2,4,5,6,7,10,11] (so [0,1]) hg pf J (gV 3 8 ?_ ?_)))))
 ·refine l8 J (cS T J J J J (Ft (j:=1) J zk J)) (an (so [0,1]) (ao 8 (l8 J (cS T J J J J (Ft (j:=1) J zk J)) (an (so [0,1]) (ha T 5 [9] (so [0,1]) hg pf J (av 12 (so [0,1]) hg pf J (KE T J J J J J (by rw[s2.2] at c8;exact c8) (by rw[xJ.at zk];rfl)) (ao 13 ?_)))))))
  refine kR (tA.R aY 396 Qq Qv) [] [1,2] J OW H (tA.c · gw) (λv8 H=>?_);rintro _ _ ⟨a17,n17,eZ,fO,rfl,rfl⟩;refine fz J (an (so [0,0]) (ha T 0 [14,15,16] (so [0,0]) hg pf J (ae (gM [3] J (GK (j:=2) (q1:=1) (q2:=3) v8.2 J zk J J J J J ⟨a17,n17,eZ,fO,J,J⟩ (λlB iz=>rx T 2 ?_))))))
  cases H;exact p1 T J [2,0] ⟨lB,(And.intro iz (Mp s2.2)),J,J⟩ J
 refine l8 J (cS T J J J J (Ft (j:=1) J zk J)) (an (so [0,1]) (ha T 6 [9] (so [0,1]) hg pf J (av 12 (so [0,1]) hg pf J (KE T J J J J J (by rw[s2.2] at c8;exact c8) (by rw[xJ.at zk];rfl)) ?_)))
 refine gV 3 13 ?_ ?_
 ·refine l8 J (cS T J J J J (Ft (j:=1) J zk J)) (an (so [0,1]) (ao 13 (kR (tA.R aY 396 Qq Qv) [] [1,2] J OW H (tA.c · gw) (λv9 H=>?_))));rintro _ _ ⟨a20,n20,pk,mJ,rfl,rfl⟩;refine fz J (an (so [0,0]) (ha T 0 [14,15,16] (so [0,0]) hg pf J (ae (gM [3] J (GK (j:=2) (q1:=1) (q2:=3) v9.2 J zk J J J J J ⟨a20,n20,pk,mJ,J,J⟩ (λnI jd=>rx T 2 ?_))))))
  cases H;exact p1 T J [2,0] ⟨nI,(And.intro jd (Mp s2.2)),J,J⟩ J
 refine kR (tA.R aY 396 Qq Qv) [] [1,2] J OW H (tA.c · gw) (λv10 H=>?_);rintro _ _ ⟨a23,n23,j5,iA,rfl,rfl⟩;refine fz J (an (so [0,0]) (ao 3 (l8 J (cS T J J J J (Ft (j:=2) J zk J)) (an (so [0,0]) (ha T 0 [14,15,16] (so [0,0]) hg pf J (ae (gM [3] J (GK (j:=2) (q1:=1) (q2:=3) v10.2 J zk J J J J J ⟨a23,n23,j5,iA,J,J⟩ (λiD jW=>rx T 2 ?_)))))))))
 cases H;exact p1 T J [2,0] ⟨iD,(And.intro jW (Mp s2.2)),J,J⟩ J
end
end Go.Proofs.YthodkonhneebbaaGreatDoor
