/- What the functions of some packages compute, each as a function of plain Lean, with its contract. No condition. -/
import Derived.Test.YthodkonhneebbaaGreatDoorKWT
namespace Go.Proofs.YthodkonhneebbaaGreatDoor
open Go.Hx
set_option maxRecDepth 100000
set_option linter.unusedSimpArgs false
set_option linter.unusedVariables false
set_option maxHeartbeats 4000000
set_option autoImplicit true
set_option relaxedAutoImplicit true
noncomputable section
def oc.f (w:Int) (h:Int):Option Bool:=some ((((decide (w≥1))&&(decide (w<=1024)))&&(decide (h≥1)))&&(decide (h<=1024)))
theorem oc.c (H:oc.f w h=some r):
 QU 96 [(ii w),(ii h)] [] F (bb r):=by
 unfold oc.f at H;refine aG Tryz.func96 J J (λW=>rc T 10 (ga T [3,4,5] 7 [1] 10 J J J J J J J (ro T 1 (ga T [7,8,9] 11 [1] 14 J J J J J J J (ro T 1 (ga T [11,12,13] 15 [] 18 J J J J J J J (ro T 4 ?_)))))))
 cases H;exact p0 T J [0] J
def wy.f (w:Int) (h:Int) (cell:Int):Option Bool:=(oc.f w h).bind λv1=>some ((v1&&(decide (cell≥0)))&&(decide (cell<(aa (w*h)))))
theorem wy.c (H:wy.f w h cell=some r):
 QU 95 [(ii w),(ii h),(ii cell)] [] F (bb r):=by
 unfold wy.f at H;refine aG Tryz.func95 J J (λW=>rc T 9 (k [] J B8 H (oc.c ·) (λv1 H=>ro T 1 (ga T [4,5,6] 10 [0,1,2] 13 J J J J J J J (ro T 1 (ga T [8,9,10,11,12,13] 14 [] 20 J J J J J J J (ro T 4 ?_)))))))
 cases H;exact p0 T J [0] J
def wx.f (w:Int) (h:Int) (cell:Int):Option (Int×Int):=(wy.f w h cell).bind λv1=>if(!v1)=true then(some ((-1),(-1))) else(if(¬w=0) then(if(¬w=0) then(some ((Int.tmod cell w),(aa (Int.tdiv cell w)))) else none) else none)
theorem wx.c (H:wx.f w h cell=some r):
 QU 58 [(ii w),(ii h),(ii cell)] [] F (.tuple #[(ii r.1),(ii r.2)]):=by
 unfold wx.f at H;refine aG Tryz.func58 J J (λW=>rc T 12 (k [] J Nx H (wy.c ·) (λv1 H=>ro T 3 (cb J H (λH=>?_) (λH=>?_)))))
 ·refine rc T 8 ?_
  cases H;exact p0 T J [0] J
 refine rc T 3 (dD mix az (au T J (au T J ?_)));obtain⟨c3,H⟩:=aA H;refine aO J J J (vi J J J c3) (au T J (au T J ?_));obtain⟨c4,H⟩:=aA H;refine aO J J J (vh J J J c4) (au T J (au T J (dg (rx T 2 ?_))))
 cases H;exact p0 T J [0] J
def qu.f (w:Int) (h:Int):Option (Int×Int):=(oc.f w h).bind λv1=>if(!v1)=true then(some (0,0)) else(some ((aa (Int.tdiv (aa ((aa (w+16))-1)) 16)),(aa (Int.tdiv (aa ((aa (h+16))-1)) 16))))
theorem qu.c (H:qu.f w h=some r):
 QU 59 [(ii w),(ii h)] [] F (.tuple #[(ii r.1),(ii r.2)]):=by
 unfold qu.f at H;refine aG Tryz.func59 J J (λW=>rc T 11 (k [] J B8 H (oc.c ·) (λv1 H=>ro T 3 (cb J H (λH=>?_) (λH=>?_)))))
 ·refine rc T 8 ?_
  cases H;exact p0 T J [0] J
 refine rc T 17 ?_
 cases H;exact p0 T J [0] J
def gN.f (w:Int) (h:Int) (cell:Int):Option Int:=(wx.f w h cell).bind λv1=>if v1.1<0 then(some (-1)) else((qu.f w h).bind λv2=>some (aa ((aa ((aa (Int.tdiv v1.2 16))*v2.1))+(aa (Int.tdiv v1.1 16)))))
theorem gN.c (H:gN.f w h cell=some r):
 QU 26 [(ii w),(ii h),(ii cell)] [] F (ii r):=by
 unfold gN.f at H;refine aG Tryz.func26 J J (λW=>rc T 10 (k [] J Nv H (wx.c ·) (λv1 H=>ro T 14 (cd J H (λH=>?_) (λH=>?_)))))
 ·refine rc T 7 ?_
  cases H;exact p0 T J [0] J
 refine rc T 6 (k [] J Gd H (qu.c ·) (λv2 H=>ro T 20 ?_))
 cases H;exact p0 T J [0] J
def zN.f (w:Int) (h:Int) (bG:Int):Option (Int×Int×Bool):=(qu.f w h).bind λv1=>if((decide (bG<0))||(decide (bG≥(aa (v1.1*v1.2)))))=true then(some (0,0,false)) else(if(¬v1.1=0) then(if(¬v1.1=0) then(some ((aa ((Int.tmod bG v1.1)*16)),(aa ((aa (Int.tdiv bG v1.1))*16)),true)) else none) else none)
theorem zN.c (H:zN.f w h bG=some r):
 QU 201 [(ii w),(ii h),(ii bG)] [] F (.tuple #[(ii r.1),(ii r.2.1),(bb r.2.2)]):=by
 unfold zN.f at H;refine aG Tryz.func201 J J (λW=>rc T 11 (k [] J Gd H (qu.c ·) (λv1 H=>ro T 13 (go T [3,4,5,6,7,8] 19 [2,9] 25 J J J J J J J (ro T 2 (cb J H (λH=>?_) (λH=>?_)))))))
 ·refine rc T 9 ?_
  cases H;exact p0 T J [0] J
 refine rc T 3 (dD mix az (au T J (au T J ?_)));obtain⟨c3,H⟩:=aA H;refine aO J J J (vi J J J c3) (au T J (au T J (au T J ?_)));obtain⟨c4,H⟩:=aA H;refine aO J J J (vh J J J c4) ?_
 iterate 4 refine au T J ?_
 refine dg (rx T 2 ?_)
 cases H;exact p0 T J [0] J
def rf.f (w:Int) (h:Int) (bG:Int):Option (Int×Int):=(zN.f w h bG).bind λv1=>if(!v1.2.2)=true then(some (0,0)) else(some ((if(aa (w-v1.1))<16 then(aa (w-v1.1)) else 16),(if(aa (h-v1.2.1))<16 then(aa (h-v1.2.1)) else 16)))
theorem rf.c (H:rf.f w h bG=some r):
 QU 172 [(ii w),(ii h),(ii bG)] [] F (.tuple #[(ii r.1),(ii r.2)]):=by
 unfold rf.f at H;refine aG Tryz.func172 J J (λW=>rc T 11 (k [] J S9 H (zN.c ·) (λv1 H=>ro T 16 (cb J H (λH=>?_) (λH=>?_)))))
 ·refine rc T 8 ?_
  cases H;exact p0 T J [0] J
 refine rc T 17 ?_
 cases H;exact p0 T J [0] J
def zM.f (w:Int) (h:Int) (x:Int) (y:Int):Option Int:=(oc.f w h).bind λv1=>if(((((!v1)||(decide (x<0)))||(decide (x≥w)))||(decide (y<0)))||(decide (y≥h)))=true then(some (-1)) else(some (aa ((aa (y*w))+x)))
theorem zM.c (H:zM.f w h x y=some r):
 QU 202 [(ii w),(ii h),(ii x),(ii y)] [] F (ii r):=by
 unfold zM.f at H;refine aG Tryz.func202 J J (λW=>rc T 10 (k [] J B8 H (oc.c ·) (λv1 H=>ro T 2 (go T [5,6,7] 13 [0,1,2,3] 16 J J J J J J J (ro T 1 (go T [9,10,11,12] 17 [0,1,2,3] 21 J J J J J J J (ro T 1 (go T [14,15,16] 22 [0,1,2,3] 25 J J J J J J J (ro T 1 (go T [18,19,20,21] 26 [0,2,3] 30 J J J J J J J (ro T 2 (cb J H (λH=>?_) (λH=>?_)))))))))))))
 ·refine rc T 7 ?_
  cases H;exact p0 T J [0] J
 refine rc T 13 ?_
 cases H;exact p0 T J [0] J
def tJ.f (w:Int) (h:Int) (bG:Int) (p3:Int):Option Int:=(zN.f w h bG).bind λv1=>(rf.f w h bG).bind λv2=>if(((!v1.2.2)||(decide (p3<0)))||(decide (p3≥(aa (v2.1*v2.2)))))=true then(some (-1)) else(if(¬v2.1=0) then(if(¬v2.1=0) then((zM.f w h (aa (v1.1+(Int.tmod p3 v2.1))) (aa (v1.2.1+(aa (Int.tdiv p3 v2.1))))).bind λv3=>some v3) else none) else none)
theorem tJ.c (H:tJ.f w h bG p3=some r):
 QU 173 [(ii w),(ii h),(ii bG),(ii p3)] [] F (ii r):=by
 unfold tJ.f at H;refine aG Tryz.func173 J J (λW=>rc T 10 (k [] J S9 H (zN.c ·) (λv1 H=>ro T 14 (k [] J F_ H (rf.c ·) (λv2 H=>ro T 13 (go T [3,4,5] 31 [0,1,3,9,10,12,13] 34 J J J J J J J (ro T 1 (go T [7,8,9,10,11,12] 35 [0,1,3,9,10,12] 41 J J J J J J J (ro T 2 (cb J H (λH=>?_) (λH=>?_)))))))))))
 ·refine rc T 7 ?_
  cases H;exact p0 T J [0] J
 refine rc T 3 (dD mix az ?_)
 iterate 5 refine au T J ?_
 obtain⟨c4,H⟩:=aA H;refine aO J J J (vi J J J c4) ?_
 iterate 4 refine au T J ?_
 obtain⟨c5,H⟩:=aA H;refine aO J J J (vh J J J c5) (au T J ?_);obtain⟨v3,V6,H⟩:=gx H;refine uV J J J J J J S_ J (zM.c V6) (au T J (dg (rx T 2 ?_)))
 cases H;exact p0 T J [0] J
def mh.f (w:Int) (h:Int) (cell:Int) (side:Int):Option Int:=(wx.f w h cell).bind λv1=>if v1.1<0 then(some (-1)) else((if(side==0)=true then(some (Sum.inr (v1.1,(aa (v1.2+(-1)))))) else(if(side==2)=true then(some (Sum.inr (v1.1,(aa (v1.2+1))))) else(if(side==3)=true then(some (Sum.inr ((aa (v1.1+(-1))),v1.2))) else(if(side==1)=true then(some (Sum.inr ((aa (v1.1+1)),v1.2))) else(if(side==4)=true then(some (Sum.inr (v1.1,v1.2))) else(some (Sum.inl (-1)))))))).bind λzz=>match zz with |Sum.inl q=>some q |Sum.inr (x2,x3)=>(zM.f w h x2 x3).bind λv5=>some v5)
theorem mh.c (H:mh.f w h cell side=some r):
 QU 207 [(ii w),(ii h),(ii cell),(ii side)] [] F (ii r):=by
 unfold mh.f at H;refine aG Tryz.func207 J J (λW=>rc T 10 (k [] J Nv H (wx.c ·) (λv1 H=>ro T 14 (cd J H (λH=>?_) (λH=>?_)))))
 ·refine rc T 7 ?_
  cases H;exact p0 T J [0] J
 refine rc T 7 (mq H [0,1] [0] (λz4 (⟨x2,x3⟩:Int×Int)=>((Sum.inr (x2,x3))=z4,[(9,(ii x2)),(10,(ii x3))],[])) J J (λz4 Z3 H=>?_) ?_)
 ·refine rc T 26 (cb J Z3 (λZ3=>?_) (λZ3=>?_))
  ·refine rc T 29 (am (_,_) [0] (oi Z3) J J)
  refine rc T 9 (cb J Z3 (λZ3=>?_) (λZ3=>?_))
  ·refine rc T 26 (am (_,_) [0] (oi Z3) J J)
  refine rc T 9 (cb J Z3 (λZ3=>?_) (λZ3=>?_))
  ·refine rc T 29 (am (_,_) [0] (oi Z3) J J)
  refine rc T 9 (cb J Z3 (λZ3=>?_) (λZ3=>?_))
  ·refine rc T 26 (am (_,_) [0] (oi Z3) J J)
  refine rc T 8 (cb J Z3 (λZ3=>?_) (λZ3=>?_))
  ·refine rc T 17 (am (_,_) [0] (oi Z3) J J)
  refine rc T 25 ?_;obtain rfl:=Option.some.inj Z3;obtain rfl:=Option.some.inj (show some (-1)=some r from H)
  exact p0 T J [0] J
 rintro _ ⟨x2,x3⟩ rfl H;refine rc T 6 (k [] J S_ H (zM.c ·) (λv5 H=>ro T 4 ?_))
 cases H;exact p0 T J [0] J
def ra.f (w:Int) (h:Int) (cell:Int):Option Int:=(wx.f w h cell).bind λv1=>if v1.1<0 then(some (-1)) else((gN.f w h cell).bind λv2=>(rf.f w h v2).bind λv3=>some (aa ((aa ((Int.tmod v1.2 16)*v3.1))+(Int.tmod v1.1 16))))
theorem ra.c (H:ra.f w h cell=some r):
 QU 165 [(ii w),(ii h),(ii cell)] [] F (ii r):=by
 unfold ra.f at H;refine aG Tryz.func165 J J (λW=>rc T 10 (k [] J Nv H (wx.c ·) (λv1 H=>ro T 14 (cd J H (λH=>?_) (λH=>?_)))))
 ·refine rc T 7 ?_
  cases H;exact p0 T J [0] J
 refine rc T 9 (k [] J rI H (gN.c ·) (λv2 H=>k [] J F_ H (rf.c ·) (λv3 H=>ro T 20 ?_)))
 cases H;exact p0 T J [0] J
def qv.l0:Nat->Int->Int->Int->Int->Int->Option Int
 |0,_,_,_,_,_=>none
 |k7+1,w,h,a,b,x6=>if x6<=4 then((mh.f w h a x6).bind λv8=>if(v8==b)=true then(some x6) else(qv.l0 k7 w h a b (aa (x6+1)))) else(some 5)
def qv.f (w:Int) (h:Int) (a:Int) (b:Int):Option Int:=((wy.f w h a).bind λv3=>if(!v3)=true then(some true) else((wy.f w h b).bind λv4=>some (!v4))).bind λx1=>if x1=true then(some 5) else(qv.l0 fuel w h a b 0)
theorem qv.c (H:qv.f w h a b=some r):
 QU 178 [(ii w),(ii h),(ii a),(ii b)] [] F (ii r):=by
 unfold qv.f at H;refine aG Tryz.func178 J J (λW=>rc T 6 (mq H [0,1,2,3] [0] (λz2 (x1:Bool)=>(x1=z2,[(21,(bb x1))],[])) J J (λz2 Z1 _=>?_) ?_))
 ·refine rc T 4 (k [] J Nx Z1 (wy.c ·) (λv3 Z1=>ro T 2 (ab 15 J Z1 (λZ1=>?_) (λZ1=>?_))))
  ·refine ro T 8 (am _ [0] (oi Z1) J J)
  refine ro T 3 (k [] J Nx Z1 (wy.c ·) (λv4 Z1=>ro T 4 (am _ [0] (oi Z1) J J)))
 rintro _ x1 rfl H;refine cb J H (λH=>?_) (λH=>?_)
 ·refine rc T 7 ?_
  cases H;exact p0 T J [0] J
 refine rc T 9 (lq [0,1,2,3] [0] (λ(⟨k7,x6⟩:Nat×Int)=>(qv.l0 k7 w h a b x6=some r,[(9,(ii x6))],[])) J J (fuel,0) [0] H J J ?_);rintro k7 x6 Z6;replace Z6:qv.l0 (k7+1) w h a b x6=some r:=Z6;rw[qv.l0] at Z6;refine rc T 7 (cd J Z6 (λZ6=>?_) (λZ6=>?_))
 ·refine rc T 10 (k [] J AA Z6 (mh.c ·) (λv8 Z6=>ro T 4 (cb J Z6 (λZ6=>?_) (λZ6=>?_))))
  ·refine rc T 12 ?_
   cases Z6;exact p0 T J [0] J
  refine rc T 9 (ar _ [0] Z6 J J)
 refine rc T 11 ?_
 cases Z6;exact p0 T J [0] J
end
noncomputable section
def pF.l0:Nat->Int->Int->(List aD)->Int->(List (Int×Bool))->Int->Option Bool
 |0,_,_,_,_,_,_=>none
 |k8+1,w,h,l,x5,x6,x7=>if x7<(List.length l:Int) then(if(0<=x7/\x7<(List.length l:Int)) then((if(rd l x7).Id<=x5 then(some true) else((gN.f w h ((rd l x7).Cell)).bind λv11=>if v11<0 then(some true) else((gN.f w h ((rd l x7).Goal)).bind λv12=>if v12<0 then(some true) else(some (aQ x6 ((rd l x7).Cell)))))).bind λx9=>if x9=true then(some false) else(pF.l0 k8 w h l ((rd l x7).Id) (cE x6 ((rd l x7).Cell) true) (aa (x7+1)))) else none) else(some true)
def pF.f (w:Int) (h:Int) (l:(List aD)):Option Bool:=(oc.f w h).bind λv1=>if(!v1)=true then(some false) else(pF.l0 fuel w h l (-1) ([]:(List (Int×Bool))) 0)
theorem pF.c (H:pF.f w h l=some r) (dh:aU lL l iy F) (gz:List.length l<=iq):
 QU 61 [(ii w),(ii h),(ll iy l iq)] [] F (bb r):=by
 unfold pF.f at H;refine aG Tryz.func61 J J (λW=>rc T 10 (k [] J B8 H (oc.c ·) (λv1 H=>ro T 3 (cb J H (λH=>?_) (λH=>?_)))))
 ·refine rc T 7 ?_
  cases H;exact p0 T J [0] J
 refine rc T 11 (aZ (uU T (Ky.int .i64 u3) (λx:Bool=>Value.bool x) J J J ⟨_,_,J⟩ (λa1 H1 s1=>ro T 12 (lq [0,1,18,19] [0] (λ(⟨k8,x5,x6,x7,a3,H3⟩:Nat×Int×(List (Int×Bool))×Int×Nat×Hp)=>(pF.l0 k8 w h l x5 x6 x7=some r/\cQ (Ky.int .i64 u3) (λx:Bool=>Value.bool x) x6 a3 H3,[(7,(ii x5)),(8,(.map (some a3))),(20,(ii x7))],[H3])) J J (fuel,(-1),([]:(List (Int×Bool))),0,a1,H1) [0,0] ⟨H,s1⟩ J J ?_))));rintro k8 ⟨x5,x6,x7,a3,H3⟩ ⟨Z3,s3⟩;rw[pF.l0] at Z3;refine rc T 6 (cd J Z3 (λZ3=>?_) (λZ3=>?_))
 ·refine rc T 6 ?_;obtain⟨c5,Z3⟩:=aA Z3;obtain⟨q4,o4,e4⟩:=dh.addr c5.1 c5.2;refine ix T J e4 c5 (bz J (fX T (cs:=[(ii (rd l x7).Id),(ii (rd l x7).Cell),(ii (rd l x7).Goal)]) J J J J J J (ig (k:=lL) (rO dh 0) e4 c5 J)) (nc T J (λb5=>sg T 2 J (ro T 3 (mq Z3 [0,1,8,10,18,19,20] [0,0,0] (λoe (x9:Bool)=>(x9=oe,[(49,(bb x9))],[])) J J (λoe Z6 _=>?_) ?_)))))
  ·refine rc T 2 (lf T 2 J (ro T 3 (ad 28 J Z6 (λZ6=>?_) (λZ6=>?_))))
   ·refine ro T 23 (am _ [0,0,0] (oi Z6) J J)
   refine ro T 3 (lf T 2 J (k [] J rI Z6 (gN.c ·) (λv11 Z6=>ro T 3 (ad 36 J Z6 (λZ6=>?_) (λZ6=>?_)))))
   ·refine ro T 15 (am _ [0,0,0] (oi Z6) J J)
   refine ro T 3 (lf T 2 J (k [] J rI Z6 (gN.c ·) (λv12 Z6=>ro T 3 (ad 44 J Z6 (λZ6=>?_) (λZ6=>?_)))))
   ·refine ro T 7 (am _ [0,0,0] (oi Z6) J J)
   refine ro T 2 (lf T 2 J (bz J (p9 (k:=(rd l x7).Cell) T (Ky.int .i64 u3) (λx:Bool=>Value.bool x) J J J J J (oE s3 (j:=1) J)) (ro T 3 (am _ [0,0,0] (oi Z6) J J))))
  rintro _ x9 rfl Z3;refine cb J Z3 (λZ3=>?_) (λZ3=>?_)
  ·refine rc T 12 ?_
   cases Z3;exact p0 T J [0] J
  refine rc T 2 (fz J (rz [6] mix (bM bL) (λhg pf=>ha T 5 [0,1] sz hg pf J (av 2 sz hg pf J (aw T J J J J (aI (j:=2) J J)) (ha T 3 [3] sz hg pf J (av 4 sz hg pf J (aw T J J J J (aI (j:=2) J J)) (ha T 1 [5] sz hg pf J (ao 6 (pU (g:=1) (m:=x6) (k:=(rd l x7).Cell) (v:=true) T (Ky.int .i64 u3) (λx:Bool=>Value.bool x) J J J J J J J s3 (λH6 s6=>an sl (ae (rx T 7 (ar (_,_,_,_,_) [0,0] ⟨Z3,s6⟩ J J)))))))))))))
 refine rc T 11 ?_
 cases Z3;exact p0 T J [0] J
def lN.l0:Nat->(List aD)->List Int->(List (Int×Bool))->Int->Option (List Int)
 |0,_,_,_,_=>none
 |k7+1,l,x4,x5,x6=>if x6<(List.length l:Int) then(if(0<=x6/\x6<(List.length l:Int)) then(if(!(aQ x5 ((rd l x6).Goal)))=true then(if(List.length x4+1<=1099511627776) then(lN.l0 k7 l (x4++[(rd l x6).Goal]) (cE x5 ((rd l x6).Goal) true) (aa (x6+1))) else none) else(lN.l0 k7 l x4 x5 (aa (x6+1)))) else none) else(some x4)
def lN.f (l:(List aD)):Option (List Int):=lN.l0 fuel l [] ([]:(List (Int×Bool))) 0
def lN.R (r:(List Int)):bm:=λu G=> ∃a0 n0 H0,aj (Fl.int .i64) 3 r a0 n0 H0/\u=(ll a0 r n0)/\G=[H0]
theorem lN.c (H:lN.f l=some r) (dh:aU lL l iy F) (gz:List.length l<=iq):
 QR 29 [(ll iy l iq)] [] [] F (lN.R r):=by
 unfold lN.f at H;refine aG Tryz.func29 J J (λW=>rc T 12 (aZ (uU T (Ky.int .i64 u3) (λx:Bool=>Value.bool x) J J J trivial (λa1 H1 s1=>ro T 12 (bC (lq [8,9] [0] (λ(⟨k7,x4,x5,x6,a4,n4,H4,a5,H5⟩:Nat×List Int×(List (Int×Bool))×Int×Option Addr×Nat×Hp×Nat×Hp)=>(lN.l0 k7 l x4 x5 x6=some r/\aj (Fl.int .i64) 3 x4 a4 n4 H4/\cQ (Ky.int .i64 u3) (λx:Bool=>Value.bool x) x5 a5 H5,[(3,(ll a4 x4 n4)),(4,(.map (some a5))),(10,(ii x6))],[H4,H5])) J J (fuel,[],([]:(List (Int×Bool))),0,none,0,[],a1,H1) [0,1,0] ⟨H,aj.nil,s1⟩ J J ?_))))));rintro k7 ⟨x4,x5,x6,a4,n4,H4,a5,H5⟩ ⟨Z1,s4,s5⟩;rw[lN.l0] at Z1;refine rc T 6 (cd J Z1 (λZ1=>?_) (λZ1=>?_))
 ·refine rc T 6 ?_;obtain⟨c3,Z1⟩:=aA Z1;obtain⟨q6,o6,e6⟩:=dh.addr c3.1 c3.2;refine ix T J e6 c3 (bz J (fX T (cs:=[(ii (rd l x6).Id),(ii (rd l x6).Cell),(ii (rd l x6).Goal)]) J J J J J J (ig (k:=lL) (rO dh 0) e6 c3 J)) (nc T J (λb7=>sg T 3 J (ro T 6 (lf T 3 J (bz J (p9 (k:=(rd l x6).Goal) T (Ky.int .i64 u3) (λx:Bool=>Value.bool x) J J J J J (oE s5 (j:=2) J)) (ro T 3 (cb J Z1 (λZ1=>?_) (λZ1=>?_)))))))))
  ·refine rc T 4 (lf T 3 J (aZ (pU (g:=2) (m:=x5) (k:=(rd l x6).Goal) (v:=true) T (Ky.int .i64 u3) (λx:Bool=>Value.bool x) J J J J J J J s5 (λH8 s8=>ro T 5 (lf T 3 J (aZ (cV (k:=(Fl.int .i64)) T [(rd l x6).Goal] J J J J J J J J J (λa9 H9 s9=>?_))))))));obtain⟨c5,Z1⟩:=aA Z1;refine aZ (ez (k:=(Fl.int .i64)) (xs:=x4) T (g:=1) J J J J J J J J J J s4 (oO s9 4) c5 J (λcw n10 bZ bU=>ro T 2 (ke [3,4,8,9,10] [0,0,0] J J (rx T 7 (ar (_,_,_,_,_,_,_,_) [0,0,0] ⟨Z1,bU,s8⟩ J J)))))
  refine rc T 8 (ar (_,_,_,_,_,_,_,_) [0,0,0] ⟨Z1,s4,s5⟩ J J)
 refine rc T 12 ?_
 cases Z1;exact p1 T J [1,0] ⟨a4,n4,H4,s4,J,J⟩ J
def ir.l1:Nat->(List Int)->(List (Int×(List b_)))->List Int->List b_->Int->Option (List b_)
 |0,_,_,_,_,_=>none
 |Kf+1,v17,bX,eh,mi,lS=>if lS<(List.length v17:Int) then(if(0<=lS/\lS<(List.length v17:Int)) then(if(¬(rd v17 lS)∈eh) then(if(List.length mi+List.length (aQ bX (rd v17 lS))<=1099511627776) then(ir.l1 Kf v17 bX ((rd v17 lS)::eh) (mi++(aQ bX (rd v17 lS))) (aa (lS+1))) else none) else none) else none) else(some mi)
def ir.l0:Nat->Int->Int->(List aD)->(List (Int×(List b_)))->(List ((Int×Int)×Int))->Int->Option (List b_)
 |0,_,_,_,_,_,_=>none
 |k8+1,w,h,l,x5,x6,x7=>if x7<(List.length l:Int) then((if(0<=x7/\x7<(List.length l:Int)) then((gN.f w h ((rd l x7).Cell)).bind λv12=>(if(!(bO x6 ((rd l x7).Goal,v12)))=true then(if(List.length (aQ x5 ((rd l x7).Goal))+1<=1099511627776) then(some ((cE x5 ((rd l x7).Goal) ((aQ x5 ((rd l x7).Goal))++[(b_.mk ((rd l x7).Goal) v12 [])])),(cE x6 ((rd l x7).Goal,v12) (List.length (aQ x5 ((rd l x7).Goal)):Int)),(List.length (aQ x5 ((rd l x7).Goal)):Int))) else none) else(some (x5,x6,(aQ x6 ((rd l x7).Goal,v12))))).bind λ(aS,bf,cm)=>if(0<=cm/\cm<(List.length (aQ aS ((rd l x7).Goal)):Int)) then(if(List.length ((rd (aQ aS ((rd l x7).Goal)) cm).cU)+1<=1099511627776) then(some ((sS aS ((rd l x7).Goal) (List.set (aQ aS ((rd l x7).Goal)) (Int.toNat cm) (b_.mk ((rd (aQ aS ((rd l x7).Goal)) cm).Goal) ((rd (aQ aS ((rd l x7).Goal)) cm).eX) ((rd (aQ aS ((rd l x7).Goal)) cm).cU++[(rd l x7).Id])))),bf)) else none) else none) else none).bind λ(x9,aN)=>ir.l0 k8 w h l x9 aN (aa (x7+1))) else((lN.f l).bind λv17=>ir.l1 fuel v17 x5 [] [] 0)
def ir.f (w:Int) (h:Int) (l:(List aD)):Option (List b_):=(pF.f w h l).bind λv1=>if(!v1)=true then(some []) else(ir.l0 fuel w h l ([]:(List (Int×(List b_)))) ([]:(List ((Int×Int)×Int))) 0)
def ir.R (r:(List b_)):bm:=λu G=> ∃a0 n0 H0,gF pG 120 r a0 n0 H0/\u=(ll a0 r n0)/\G=[H0]
theorem ir.c (H:ir.f w h l=some r) (dh:aU lL l iy F) (gz:List.length l<=iq):
 QR 28 [(ii w),(ii h),(ll iy l iq)] [] [] F (ir.R r):=by
 unfold ir.f at H;refine aG Tryz.func28 J J (λW=>rc T 11 (k [] J TB H (pF.c · (rO dh 0) gz) (λv1 H=>ro T 3 (cb J H (λH=>?_) (λH=>?_)))))
 ·refine rc T 7 ?_
  cases H;refine bC (p1 T J [1,0] ⟨none,0,[],gF.nil,J,J⟩ J)
 refine rc T 4 (aZ (uU T (Ky.int .i64 u3) ud J J J trivial (λa2 H2 s2=>ro T 5 (aZ (uU T (Ky.pair T .i64 J J J lQ u3) (λx:Int=>Value.int .i64 x) J J J trivial (λa3 H3 s3=>ro T 12 (lq [0,1,2,26,27] [0] (λ(⟨k8,x5,x6,x7,a6,H6,a7,H7⟩:Nat×(List (Int×(List b_)))×(List ((Int×Int)×Int))×Int×Nat×Hp×Nat×Hp)=>(ir.l0 k8 w h l x5 x6 x7=some r/\wJ (gF pG 120) (Ky.int .i64 u3) [] x5 a6 H6/\cQ (Ky.pair T .i64 J J J lQ u3) (λx:Int=>Value.int .i64 x) x6 a7 H7,[(7,(.map (some a6))),(8,(.map (some a7))),(28,(ii x7))],[H6,H7])) J J (fuel,([]:(List (Int×(List b_)))),([]:(List ((Int×Int)×Int))),0,a2,H2,a3,H3) [0,0,0] ⟨H,(afY (S:=(gF pG 120)) s2),s3⟩ J J ?_)))))));rintro k8 ⟨x5,x6,x7,a6,H6,a7,H7⟩ ⟨Z3,s6,s7⟩;rw[ir.l0] at Z3;refine rc T 6 (cd J Z3 (λZ3=>?_) (λZ3=>?_))
 ·refine rc T 2 (mq Z3 [0,1,2,26,27,28] [0] (λlT (⟨x9,aN,a8,H8,a9,H9⟩:(List (Int×(List b_)))×(List ((Int×Int)×Int))×Nat×Hp×Nat×Hp)=>((x9,aN)=lT/\wJ (gF pG 120) (Ky.int .i64 u3) [] x9 a8 H8/\cQ (Ky.pair T .i64 J J J lQ u3) (λx:Int=>Value.int .i64 x) aN a9 H9,[(7,(.map (some a8))),(8,(.map (some a9)))],[H8,H9])) J J (λlT Z5 _=>?_) ?_)
  ·refine rc T 3 ?_;obtain⟨c6,Z5⟩:=aA Z5;obtain⟨KL,KB,pZ⟩:=dh.addr c6.1 c6.2;refine ix T J pZ c6 (bz J (fX T (cs:=[(ii (rd l x7).Id),(ii (rd l x7).Cell),(ii (rd l x7).Goal)]) J J J J J J (ig (k:=lL) (rO dh 0) pZ c6 J)) (nc T J (λjC=>sg T 3 J (ro T 7 (lf T 3 J (k [] J rI Z5 (gN.c ·) (λv12 Z5=>ro T 6 (lf T 3 J (ro T 1 (bz J (Jk T J J J J J J) (nc T J (λkz=>sg T 4 J (ro T 5 (lm T 4 J (bz J (p9 (k:=((rd l x7).Goal,v12)) T (Ky.pair T .i64 J J J lQ u3) (λx:Int=>Value.int .i64 x) J J J J J (oE s7 (j:=2) J)) (ro T 7 (mq Z5 [0,1,2,10,26,27,28] [0,2] (λIt (⟨aS,bf,cm,dH,eJ,iT,fV⟩:(List (Int×(List b_)))×(List ((Int×Int)×Int))×Int×Nat×Hp×Nat×Hp)=>((aS,bf,cm)=It/\wJ (gF pG 120) (Ky.int .i64 u3) [] aS dH eJ/\cQ (Ky.pair T .i64 J J J lQ u3) (λx:Int=>Value.int .i64 x) bf iT fV,[(7,(.map (some dH))),(8,(.map (some iT))),(13,(ii cm))],[eJ,fV])) J J (λIt Z8 _=>?_) ?_)))))))))))))))))
   ·refine rc T 6 (cb J Z8 (λZ8=>?_) (λZ8=>?_))
    ·refine rc T 4 (lf T 3 J (FE (j:=1) (gF.nil (kd:=pG) (E:=120)) ((rd l x7).Goal) bh J s6 (λjz n15 dP gk dV gd=>bz J (FZ (kx:=(rd l x7).Goal) (v:=(jz,List.length (aQ x5 ((rd l x7).Goal)),n15)) T (Ky.int .i64 u3) J J J J J (GK (j:=1) J gd)) (ro T 3 (Zc (j:=1) (q:=5) J gd J J dV J (λeF fq=>ke [0,1,2,7,8,10,11,12,13,26,27,28] [0,0,0,0,0] J J (rx T 4 (lm T 4 J (ro T 1 (aZ (pU (g:=2) (m:=x6) (k:=((rd l x7).Goal,v12)) (v:=(List.length (aQ x5 ((rd l x7).Goal)):Int)) T (Ky.pair T .i64 J J J lQ u3) (λx:Int=>Value.int .i64 x) J J J J J J J s7 (λfe ft=>ro T 2 (ke [0,1,2,7,8,10,11,13,26,27,28] [0,0,0,0] J J (fz J (rg [13] [0,1,1] mix (bM bL) (λhg pf=>ha T 12 [0,1] (so [0,1,1]) hg pf J (av 2 (so [0,1,1]) hg pf J (aw T J J J J (aI (j:=2) J J)) (ha T 9 [3,4] (so [0,1,1]) hg pf J (av 5 (so [0,1,1]) hg pf J (aw T J J J J (aI (j:=2) J J)) (ha T 7 [7] (so [0,1,1]) hg pf J (av 8 (so [0,1,1]) hg pf J (aw T J J J J (aI (j:=2) J J)) (ha T 4 [9,10] (so [0,1,1]) hg pf J (fk 6 11 ?_ ?_)))))))))))))))))))))))
     ·refine FE (j:=1) (gF.nil (kd:=pG) (E:=120)) ((rd l x7).Goal) bh J fq (λmr n19 kn oh gp me=>lF J (FZ (kx:=(rd l x7).Goal) (v:=(mr,List.length (aQ x5 ((rd l x7).Goal)),n19)) T (Ky.int .i64 u3) J J J J J (GK (j:=1) J me)) (an (so [0,1,1]) (ao 11 (bC (gw [5] J (FD (kd:=pG) (E:=120) (q:=5) (c:=[(ii (rd l x7).Goal),(ii v12),nl]) T (b_.mk ((rd l x7).Goal) v12 []) J J J J J J J J J J ⟨none,0,[],(aj.nil (k:=(Fl.int .i64)) (E:=3)),J,J⟩ (λa23 jQ g_=>an (so [0,1,1]) (ao 12 ?_))))))));obtain⟨iI,Z8⟩:=aA Z8;refine FC (kd:=pG) (xs:=(aQ x5 ((rd l x7).Goal))) (ys:=[(b_.mk ((rd l x7).Goal) v12 [])]) T (g:=4) (q:=6) J J J J J J J J J J gp J J g_ iI J (λa24 n24 qx lO=>an (so [0,1,1]) (ao 13 (Qv (q:=4) (kx:=(rd l x7).Goal) (ys:=((aQ x5 ((rd l x7).Goal))++[(b_.mk ((rd l x7).Goal) v12 [])])) T (Ky.int .i64 u3) 1 J J J J J J J me J J lO (λgS jt=>an sl (ae (rx T 1 (am (_,_,_,_,_,_,_) [0,2,0,0] ⟨oi Z8,jt,ft⟩ J J)))))))
     refine bC (gw [4] J (FD (kd:=pG) (E:=120) (q:=4) (c:=[(ii (rd l x7).Goal),(ii v12),nl]) T (b_.mk ((rd l x7).Goal) v12 []) J J J J J J J J J J ⟨none,0,[],(aj.nil (k:=(Fl.int .i64)) (E:=3)),J,J⟩ (λa28 uH ki=>an (so [0,1,1]) (ao 6 (FE (j:=1) (gF.nil (kd:=pG) (E:=120)) ((rd l x7).Goal) bh J fq (λyr n29 rk rl qQ pH=>lF J (FZ (kx:=(rd l x7).Goal) (v:=(yr,List.length (aQ x5 ((rd l x7).Goal)),n29)) T (Ky.int .i64 u3) J J J J J (GK (j:=1) J pH)) (an (so [0,1,1]) (ao 12 ?_))))))));obtain⟨eH,Z8⟩:=aA Z8;refine FC (kd:=pG) (xs:=(aQ x5 ((rd l x7).Goal))) (ys:=[(b_.mk ((rd l x7).Goal) v12 [])]) T (g:=6) (q:=5) J J J J J J J J J J qQ J J ki eH J (λa31 n31 BB zx=>an (so [0,1,1]) (ao 13 (Qv (q:=6) (kx:=(rd l x7).Goal) (ys:=((aQ x5 ((rd l x7).Goal))++[(b_.mk ((rd l x7).Goal) v12 [])])) T (Ky.int .i64 u3) 1 J J J J J J J pH J J zx (λIx zy=>an sl (ae (rx T 1 (am (_,_,_,_,_,_,_) [0,2,0,0] ⟨oi Z8,zy,ft⟩ J J)))))))
    refine rc T 2 (am (_,_,_,_,_,_,_) [0,2,0,0] ⟨oi Z8,s6,s7⟩ J J)
   rintro _ ⟨aS,bf,cm,dH,eJ,iT,fV⟩ ⟨rfl,dm,gC⟩ Z5;refine rc T 4 (lf T 1 J (FE (j:=2) (gF.nil (kd:=pG) (E:=120)) ((rd l x7).Goal) bh J dm (λa33 n33 Iy uI vY xK=>bz J (FZ (kx:=(rd l x7).Goal) (v:=(a33,List.length (aQ aS ((rd l x7).Goal)),n33)) T (Ky.int .i64 u3) J J J J J (GK (j:=2) J xK)) (ro T 1 ?_))));obtain⟨fW,Z5⟩:=aA Z5;obtain⟨q35,o35,Mr⟩:=vY.r.addr fW.1 fW.2;refine ix T J Mr fW (ro T 3 (LQ (j:=4) J vY fW (λ_ _ E_ o37 C4=>?_)));obtain⟨z_,n36,zT,C3,rfl,rfl⟩:=o37;refine LU (ks [0,1,2,7,8,10,15,26,27,28] J (fz J (rg [8,11] [0,0,0,0,0,0] mix (bM bL) (λhg pf=>ha T 8 [0,1,2,3] sz hg pf J (av 4 sz hg pf J (aw T J J J J (zb (j:=4) J (uP.cells C4) Mr 2 J)) (ha T 6 [5] sz hg pf J (av 6 sz hg pf J (aw T J J J J (aI (j:=1) J J)) (ao 7 (cV (k:=(Fl.int .i64)) T [(rd l x7).Id] J J J J J J J J J (λIM zU A9=>an (so [0,0,0,0,0,0]) (ao 8 ?_)))))))))));obtain⟨jg,Z5⟩:=aA Z5;refine ez (k:=(Fl.int .i64)) (xs:=(rd (aQ aS ((rd l x7).Goal)) cm).cU) T (g:=5) J J J J J J J J J J C3 (oO A9 6) jg J (λa39 n39 Lq A_=>an sl (hb T 9 sl hg pf J (hb T 10 sl hg pf J (ao 11 (LR T 4 2 [(ii (rd (aQ aS ((rd l x7).Goal)) cm).Goal),(ii (rd (aQ aS ((rd l x7).Goal)) cm).eX),(ll a39 ((rd (aQ aS ((rd l x7).Goal)) cm).cU++[(rd l x7).Id]) n39)] J J J J J J C4 Mr J J J J (λLr EG=>an sl (ae (gw [5] J (LP (j:=4) (q:=6) (b_.mk ((rd (aQ aS ((rd l x7).Goal)) cm).Goal) ((rd (aQ aS ((rd l x7).Goal)) cm).eX) ((rd (aQ aS ((rd l x7).Goal)) cm).cU++[(rd l x7).Id])) J EG J J ⟨a39,n39,Lq,A_,J,J⟩ (λgD tg=>Qw (j:=2) (q:=4) (List.set (aQ aS ((rd l x7).Goal)) (Int.toNat cm) (b_.mk ((rd (aQ aS ((rd l x7).Goal)) cm).Goal) ((rd (aQ aS ((rd l x7).Goal)) cm).eX) ((rd (aQ aS ((rd l x7).Goal)) cm).cU++[(rd l x7).Id]))) J xK J J tg (by simp only[List.length_set]) (λFa zA=>rx T 2 (am (_,_,_,_,_,_) [0,1,1] ⟨oi Z5,zA,gC⟩ J J))))))))))))
  rintro _ ⟨x9,aN,a8,H8,a9,H9⟩ ⟨rfl,s8,s9⟩ Z3;refine rc T 5 (ar (_,_,_,_,_,_,_) [0,0,0] ⟨Z3,s8,s9⟩ J J)
 refine rc T 14 (kr lN.R [] [] J Tt Z3 (lN.c · (rO dh 0) gz) (λv17 Z3=>?_));rintro _ _ ⟨a44,n44,XJ,C5,rfl,rfl⟩;refine fz J (ro T 5 (bC (lq [89,90] [0,2] (λ(⟨Kf,bX,eh,mi,lS,IQ,Fb,Fm,n48,Fc⟩:Nat×(List (Int×(List b_)))×List Int×List b_×Int×Nat×Hp×Option Addr×Nat×Hp)=>(ir.l1 Kf v17 bX eh mi lS=some r/\wJ (gF pG 120) (Ky.int .i64 u3) eh bX IQ Fb/\gF pG 120 mi Fm n48 Fc,[(7,(.map (some IQ))),(16,(ll Fm mi n48)),(91,(ii lS))],[Fb,Fc])) J J (fuel,x5,[],[],0,a6,H6,none,0,[]) [0,2,0,1] ⟨Z3,s6,gF.nil⟩ J J ?_)));rintro Kf ⟨bX,eh,mi,lS,IQ,Fb,Fm,n48,Fc⟩ ⟨dp,HE,KR⟩;rw[ir.l1] at dp;refine rc T 6 (cd J dp (λdp=>?_) (λdp=>?_))
 ·refine rc T 6 ?_;obtain⟨jD,dp⟩:=aA dp;obtain⟨q49,o49,Rx⟩:=C5.r.addr jD.1 jD.2;refine ix T J Rx jD (le T 0 (oO C5 1) Rx jD J J (ro T 7 ?_));obtain⟨lI,dp⟩:=aA dp;refine FE (j:=2) (gF.nil (kd:=pG) (E:=120)) (rd v17 lS) lI J HE (λa50 n50 XM XN Pj KS=>bz J (FZ (kx:=(rd v17 lS)) (v:=(a50,List.length (aQ bX (rd v17 lS)),n50)) T (Ky.int .i64 u3) J J J J J (GK (j:=2) J KS)) ?_);obtain⟨Ag,dp⟩:=aA dp;refine aZ (FC (kd:=pG) (xs:=mi) (ys:=(aQ bX (rd v17 lS))) T (g:=3) (q:=4) J J J J J J J J J J KR J J Pj Ag J (λLy n52 Ls EH=>ro T 2 (Zd (j:=2) J KS (λXO Pk=>rx T 7 (ar (_,_,_,_,_,_,_,_,_) [0,0,0,0] ⟨dp,Pk,EH⟩ J J)))))
 refine rc T 12 ?_
 cases dp;exact p1 T J [3,0] ⟨Fm,n48,Fc,KR,J,J⟩ J
end
noncomputable section
def fE.f (n:Int) (lo:Int) (hi:Int):Option Int:=if(¬(aa ((aa (hi-lo))+1))=0) then(if(Int.tmod n (aa ((aa (hi-lo))+1)))<0 then(some (aa (lo+(aa ((aa ((aa ((Int.tmod n (aa ((aa (hi-lo))+1)))+hi))-lo))+1))))) else(some (aa (lo+(Int.tmod n (aa ((aa (hi-lo))+1))))))) else none
theorem fE.c (H:fE.f n lo hi=some r):
 QU 12 [(ii n),(ii lo),(ii hi)] [] F (ii r):=by
 unfold fE.f at H;refine aG Tryz.func12 J J (λW=>rc T 12 ?_);obtain⟨c1,H⟩:=aA H;refine bz J (vi J J J c1) (ro T 10 (cd J H (λH=>?_) (λH=>?_)))
 ·refine rc T 19 ?_
  cases H;exact p0 T J [0] J
 refine rc T 11 ?_
 cases H;exact p0 T J [0] J
def vS.f (x:Int):Option Int:=if((Int.tmod x 8)==7)=true then(some 255) else(if x<160 then(some (bP (1+(Int.tmod x 4)))) else(some x))
theorem vS.c (H:vS.f x=some r):
 QU 49 [(.int .u8 x)] [] F (.int .u8 r):=by
 unfold vS.f at H;refine aG Tryz.func49 J J (λW=>rc T 13 (cb J H (λH=>?_) (λH=>?_)))
 ·refine rc T 7 ?_
  cases H;exact p0 T J [0] J
 refine rc T 9 (cd J H (λH=>?_) (λH=>?_))
 ·refine rc T 10 ?_
  cases H;exact p0 T J [0] J
 refine rc T 9 ?_
 cases H;exact p0 T J [0] J
def lp.l0:Nat->(List Int)->Int->Int->List Int->Int->Option aM
 |0,_,_,_,_,_=>none
 |k7+1,p2,v1,v2,x5,x6=>if x6<(aa (v1*v2)) then(if(List.length p2:Int)>0 then(if(¬(List.length p2:Int)=0) then(if(¬(List.length p2:Int)=0) then(if(0<=(Int.tmod (aa (x6+(aa ((aa (Int.tdiv x6 (List.length p2:Int)))*5)))) (List.length p2:Int))/\(Int.tmod (aa (x6+(aa ((aa (Int.tdiv x6 (List.length p2:Int)))*5)))) (List.length p2:Int))<(List.length p2:Int)) then((vS.f (rd p2 (Int.tmod (aa (x6+(aa ((aa (Int.tdiv x6 (List.length p2:Int)))*5)))) (List.length p2:Int)))).bind λv8=>if(List.length x5+1<=1099511627776) then(lp.l0 k7 p2 v1 v2 (x5++[v8]) (aa (x6+1))) else none) else none) else none) else none) else((vS.f 1).bind λv9=>if(List.length x5+1<=1099511627776) then(lp.l0 k7 p2 v1 v2 (x5++[v9]) (aa (x6+1))) else none)) else(some (aM.mk v1 v2 x5))
def lp.f (w:Int) (h:Int) (p2:(List Int)):Option aM:=(fE.f w 1 40).bind λv1=>(fE.f h 1 40).bind λv2=>lp.l0 fuel p2 v1 v2 [] 0
def lp.R (r:aM):bm:=λu G=> ∃a0 n0 H0,aj (Fl.int .u8) 5 r.C a0 n0 H0/\u=(.agg #[(ii r.W),(ii r.H),(ll a0 r.C n0)])/\G=[H0]
theorem lp.c (H:lp.f w h p2=some r) (B4:aU (Fl.int .u8) p2 Ft F) (FN:List.length p2<=Hc):
 QR 48 [(ii w),(ii h),(ll Ft p2 Hc)] [] [] F (lp.R r):=by
 unfold lp.f at H;refine aG Tryz.func48 J J (λW=>rc T 2 (nc T J (λb1=>ro T 5 (k [] J l9 H (fE.c ·) (λv1 H=>ro T 1 (k [] J l9 H (fE.c ·) (λv2 H=>ro T 1 (nc T J (λb2=>sg T 2 J (ro T 9 (bC (lq [2,6,7] [0,0] (λ(⟨k7,x5,x6,a4,n4,H4⟩:Nat×List Int×Int×Option Addr×Nat×Hp)=>(lp.l0 k7 p2 v1 v2 x5 x6=some r/\aj (Fl.int .u8) 5 x5 a4 n4 H4,[(8,(ii x6))],[(cl b2 30 [(ii v1),(ii v2),(ll a4 x5 n4)]),H4])) J J (fuel,[],0,none,0,[]) [0,0,0,0] ⟨H,aj.nil⟩ J J ?_))))))))))));rintro k7 ⟨x5,x6,a4,n4,H4⟩ ⟨Z3,s4⟩;rw[lp.l0] at Z3;refine rc T 5 (lf T 2 J (ro T 1 (lf T 2 J (ro T 4 (cd J Z3 (λZ3=>?_) (λZ3=>?_))))))
 ·refine rc T 23 (cd J Z3 (λZ3=>?_) (λZ3=>?_))
  ·refine rc T 5 ?_;obtain⟨c6,Z3⟩:=aA Z3;refine bz J (vh J J J c6) (ro T 3 ?_);obtain⟨c7,Z3⟩:=aA Z3;refine bz J (vi J J J c7) ?_;obtain⟨c8,Z3⟩:=aA Z3;obtain⟨q5,o5,e5⟩:=B4.addr c8.1 c8.2;refine ix T J e5 c8 (le T 0 (rO B4 0) e5 c8 J J (ro T 3 (fz J (rg [5,7] [0,0,0,0] mix (bM bL) (λhg pf=>ha T 7 [0] sz hg pf J (av 1 sz hg pf J (aw T J J J J (aI (j:=2) J J)) (ha T 5 [2] sz hg pf J (ao 3 (kh [] J Nt Z3 (vS.c ·) (λv8 Z3=>an sz (ao 4 (cV (k:=(Fl.int .u8)) T [v8] J J J J J J J J J (λa6 H6 s6=>an (so [0,0,0,0]) (ao 5 ?_))))))))))))));obtain⟨iI,Z3⟩:=aA Z3;refine ez (k:=(Fl.int .u8)) (xs:=x5) T (g:=3) J J J J J J J J J J s4 (oO s6 4) iI J (λa7 n7 H7 s7=>an sl (hb T 6 sl hg pf J (ao 7 (sf T 2 J (an sl (ae (rx T 8 (ar (_,_,_,_,_) [0,0,0,0] ⟨Z3,s7⟩ J J))))))))
  refine rc T 2 (fz J (rg [5,7] [0,0,0,0] mix (bM bL) (λhg pf=>ha T 7 [0] sz hg pf J (av 1 sz hg pf J (aw T J J J J (aI (j:=2) J J)) (ha T 5 [2] sz hg pf J (ao 3 (kh [] J Nt Z3 (vS.c ·) (λv9 Z3=>an sz (ao 4 (cV (k:=(Fl.int .u8)) T [v9] J J J J J J J J J (λa8 H8 s8=>an (so [0,0,0,0]) (ao 5 ?_))))))))))));obtain⟨fW,Z3⟩:=aA Z3;refine ez (k:=(Fl.int .u8)) (xs:=x5) T (g:=3) J J J J J J J J J J s4 (oO s8 4) fW J (λa9 n9 H9 s9=>an sl (hb T 6 sl hg pf J (ao 7 (sf T 2 J (an sl (ae (rx T 8 (ar (_,_,_,_,_) [0,0,0,0] ⟨Z3,s9⟩ J J))))))))
 refine rc T 7 (lm T 2 J (sg T 1 J (ro T 3 ?_)))
 cases Z3;exact pb T J (.cN (j:=1) [(ii v1),(ii v2),(ll a4 x5 n4)] J J J J J J J .nil) [3,0] ⟨(_,_),a4,n4,H4,s4,J,J⟩ J J
def sZ.f (n:Int) (lo:Int) (hi:Int):Option Bool:=some ((decide (n≥lo))&&(decide (n<=hi)))
theorem sZ.c (H:sZ.f n lo hi=some r):
 QU 47 [(ii n),(ii lo),(ii hi)] [] F (bb r):=by
 unfold sZ.f at H;refine aG Tryz.func47 J J (λW=>rc T 11 (ga T [4,5,6,7] 10 [] 14 J J J J J J J (ro T 4 ?_)))
 cases H;exact p0 T J [0] J
def CZ.f (w:Int) (h:Int):Option Bool:=((sZ.f w 1 1024).bind λv3=>if v3=true then((sZ.f h 1 1024).bind λv4=>some v4) else(some false)).bind λx1=>some x1
theorem CZ.c (H:CZ.f w h=some r):
 QU 67 [(ii w),(ii h)] [] F (bb r):=by
 unfold CZ.f at H;refine aG Tryz.func67 J J (λW=>rc T 5 (mq H [] [0] (λz2 (x1:Bool)=>(x1=z2,[(4,(bb x1))],[])) J J (λz2 Z1 _=>?_) ?_))
 ·refine rc T 2 (k [] J JH Z1 (sZ.c ·) (λv3 Z1=>ro T 1 (ab 7 J Z1 (λZ1=>?_) (λZ1=>?_))))
  ·refine ro T 1 (k [] J JH Z1 (sZ.c ·) (λv4 Z1=>ro T 4 (am _ [0] (oi Z1) J J)))
  refine ro T 6 (am _ [0] (oi Z1) J J)
 rintro _ x1 rfl H;refine rc T 1 ?_
 cases H;exact p0 T J [0] J
def vT.f (w:Int) (h:Int):Option (Int×Int):=(CZ.f w h).bind λv1=>if(!v1)=true then(some (0,0)) else(some ((aa (Int.tdiv (aa ((aa (w+16))-1)) 16)),(aa (Int.tdiv (aa ((aa (h+16))-1)) 16))))
theorem vT.c (H:vT.f w h=some r):
 QU 57 [(ii w),(ii h)] [] F (.tuple #[(ii r.1),(ii r.2)]):=by
 unfold vT.f at H;refine aG Tryz.func57 J J (λW=>rc T 11 (k [] J ad1 H (CZ.c ·) (λv1 H=>ro T 3 (cb J H (λH=>?_) (λH=>?_)))))
 ·refine rc T 8 ?_
  cases H;exact p0 T J [0] J
 refine rc T 17 ?_
 cases H;exact p0 T J [0] J
def zt.f (w:Int) (h:Int):Option Int:=(vT.f w h).bind λv1=>some (aa (v1.1*v1.2))
theorem zt.c (H:zt.f w h=some r):
 QU 25 [(ii w),(ii h)] [] F (ii r):=by
 unfold zt.f at H;refine aG Tryz.func25 J J (λW=>rc T 9 (k [] J Nu H (vT.c ·) (λv1 H=>ro T 16 ?_)))
 cases H;exact p0 T J [0] J
def zu.f (w:Int) (h:Int) (s:Int):Option (Int×Int):=(zt.f w h).bind λv1=>(sZ.f s 0 (aa (v1-1))).bind λv2=>if(!v2)=true then(some (0,0)) else((vT.f w h).bind λv3=>if(¬v3.1=0) then(if(¬v3.1=0) then(some ((if(aa (w-(aa (16*(Int.tmod s v3.1)))))<16 then(aa (w-(aa (16*(Int.tmod s v3.1))))) else 16),(if(aa (h-(aa (16*(aa (Int.tdiv s v3.1))))))<16 then(aa (h-(aa (16*(aa (Int.tdiv s v3.1)))))) else 16))) else none) else none)
theorem zu.c (H:zu.f w h s=some r):
 QU 70 [(ii w),(ii h),(ii s)] [] F (.tuple #[(ii r.1),(ii r.2)]):=by
 unfold zu.f at H;refine aG Tryz.func70 J J (λW=>rc T 12 (k [] J Tl H (zt.c ·) (λv1 H=>ro T 1 (k [] J JH H (sZ.c ·) (λv2 H=>ro T 3 (cb J H (λH=>?_) (λH=>?_)))))))
 ·refine rc T 8 ?_
  cases H;exact p0 T J [0] J
 refine rc T 6 (k [] J Nu H (vT.c ·) (λv3 H=>ro T 8 (dD mix az (au T J (au T J (au T J ?_))))));obtain⟨c5,H⟩:=aA H;refine aO J J J (vi J J J c5) ?_
 iterate 6 refine au T J ?_
 obtain⟨c6,H⟩:=aA H;refine aO J J J (vh J J J c6) ?_
 iterate 5 refine au T J ?_
 refine dg (rx T 2 ?_)
 cases H;exact p0 T J [0] J
def CY.f (w:Int) (h:Int) (s:Int) (l:Int):Option Int:=(zu.f w h s).bind λv1=>(sZ.f l 0 (aa ((aa (v1.1*v1.2))-1))).bind λv2=>if(!v2)=true then(some (-1)) else((vT.f w h).bind λv3=>if(¬v3.1=0) then(if(¬v1.1=0) then(if(¬v3.1=0) then(if(¬v1.1=0) then(some (aa ((aa ((aa ((aa ((aa (16*(aa (Int.tdiv s v3.1))))+(aa (Int.tdiv l v1.1))))*w))+(aa (16*(Int.tmod s v3.1)))))+(Int.tmod l v1.1)))) else none) else none) else none) else none)
theorem CY.c (H:CY.f w h s l=some r):
 QU 71 [(ii w),(ii h),(ii s),(ii l)] [] F (ii r):=by
 unfold CY.f at H;refine aG Tryz.func71 J J (λW=>rc T 10 (k [] J TD H (zu.c ·) (λv1 H=>ro T 15 (k [] J JH H (sZ.c ·) (λv2 H=>ro T 3 (cb J H (λH=>?_) (λH=>?_)))))))
 ·refine rc T 7 ?_
  cases H;exact p0 T J [0] J
 refine rc T 6 (k [] J Nu H (vT.c ·) (λv3 H=>ro T 8 (dD mix az (au T J (au T J ?_)))));obtain⟨c5,H⟩:=aA H;refine aO J J J (vh J J J c5) (au T J (au T J (au T J ?_)));obtain⟨c6,H⟩:=aA H;refine aO J J J (vh J J J c6) ?_
 iterate 5 refine au T J ?_
 obtain⟨c7,H⟩:=aA H;refine aO J J J (vi J J J c7) ?_
 iterate 4 refine au T J ?_
 obtain⟨c8,H⟩:=aA H;refine aO J J J (vi J J J c8) (au T J (au T J (dg (rx T 2 ?_))))
 cases H;exact p0 T J [0] J
def nS.l0:Nat->aM->Int->(Int×Int)->List Int->Int->Option aM
 |0,_,_,_,_,_=>none
 |k6+1,m,s,v1,x4,x5=>if x5<(aa (v1.1*v1.2)) then((CY.f m.W m.H s x5).bind λv7=>if(0<=v7/\v7<(List.length m.C:Int)) then(if(List.length x4+1<=1099511627776) then(nS.l0 k6 m s v1 (x4++[(rd m.C v7)]) (aa (x5+1))) else none) else none) else(some (aM.mk v1.1 v1.2 x4))
def nS.f (m:aM) (s:Int):Option aM:=(zu.f m.W m.H s).bind λv1=>nS.l0 fuel m s v1 [] 0
def nS.R (r:aM):bm:=λu G=> ∃a0 n0 H0,aj (Fl.int .u8) 5 r.C a0 n0 H0/\u=(.agg #[(ii r.W),(ii r.H),(ll a0 r.C n0)])/\G=[H0]
theorem nS.c (H:nS.f m s=some r) (sJ:aU (Fl.int .u8) m.C oX F) (uZ:List.length m.C<=oG):
 QR 76 [(.agg #[(ii m.W),(ii m.H),(ll oX m.C oG)]),(ii s)] [] [] F (nS.R r):=by
 unfold nS.f at H;refine aG Tryz.func76 J J (λW=>rc T 2 (nc T J (λb1=>nc T J (λb2=>ro T 5 (lf T 1 J (ro T 1 (lf T 1 J (ro T 1 (k [] J TD H (zu.c ·) (λv1 H=>ro T 12 (nc T J (λb3=>sg T 3 J (ro T 9 (bC (lq [1,2,4,5,6,7] [0,0,0] (λ(⟨k6,x4,x5,a5,n5,H5⟩:Nat×List Int×Int×Option Addr×Nat×Hp)=>(nS.l0 k6 m s v1 x4 x5=some r/\aj (Fl.int .u8) 5 x4 a5 n5 H5,[(8,(ii x5))],[(cl b3 139 [(ii v1.1),(ii v1.2),(ll a5 x4 n5)]),H5])) J J (fuel,[],0,none,0,[]) [0,0,0,0,0] ⟨H,aj.nil⟩ J J ?_)))))))))))))));rintro k6 ⟨x4,x5,a5,n5,H5⟩ ⟨Z2,s5⟩;rw[nS.l0] at Z2;refine rc T 10 (cd J Z2 (λZ2=>?_) (λZ2=>?_))
 ·refine rc T 4 (fz J (rg [14,16] [0,0,0,0,0] mix (bM bL) (λhg pf=>ha T 16 [0] sz hg pf J (av 1 sz hg pf J (aw T J J J J (aI (j:=3) J J)) (ha T 14 [2] sz hg pf J (av 3 sz hg pf J (aw T J J J J (aI (j:=1) J J)) (ha T 12 [4] sz hg pf J (av 5 sz hg pf J (aw T J J J J (aI (j:=1) J J)) (ha T 10 [6] sz hg pf J (av 7 sz hg pf J (aw T J J J J (aI (j:=1) J J)) (ha T 7 [8,9] sz hg pf J (ao 10 (kh [] J ad2 Z2 (CY.c ·) (λv7 Z2=>an sz ?_))))))))))))));obtain⟨c5,Z2⟩:=aA Z2;obtain⟨q6,o6,e6⟩:=sJ.addr c5.1 c5.2;refine av 11 sz hg pf J (cT T J J J J J e6 c5.1 c5.2) (av 12 sz hg pf J (aw T J J J J (iY (k:=(Fl.int .u8)) (rO sJ 0) e6 c5 0 J)) (ao 13 (cV (k:=(Fl.int .u8)) T [(rd m.C v7)] J J J J J J J J J (λa7 H7 s7=>an (so [0,0,0,0,0]) (ao 14 ?_)))));obtain⟨c6,Z2⟩:=aA Z2;refine ez (k:=(Fl.int .u8)) (xs:=x4) T (g:=4) J J J J J J J J J J s5 (oO s7 5) c6 J (λa8 n8 H8 s8=>an sl (hb T 15 sl hg pf J (ao 16 (sf T 3 J (an sl (ae (rx T 8 (ar (_,_,_,_,_) [0,0,0,0,0] ⟨Z2,s8⟩ J J))))))))
 refine rc T 7 (lm T 3 J (sg T 2 J (ro T 3 ?_)))
 cases Z2;exact pb T J (.cN (j:=2) [(ii v1.1),(ii v1.2),(ll a5 x4 n5)] J J J J J J J .nil) [4,0] ⟨(_,_),a5,n5,H5,s5,J,J⟩ J J
def iD.l1:Nat->(List Int)->Int->Int->Option Int
 |0,_,_,_=>none
 |ug+1,ag,x4,bg=>(if(aa (x4+bg))<(List.length ag:Int) then(if(0<=(aa (x4+bg))/\(aa (x4+bg))<(List.length ag:Int)) then(if(0<=x4/\x4<(List.length ag:Int)) then(some ((rd ag (aa (x4+bg)))==(rd ag x4))) else none) else none) else(some false)).bind λbf=>if bf=true then(iD.l1 ug ag x4 (aa (bg+1))) else(some bg)
def iD.l0:Nat->(List Int)->List Int->Int->Option (List Int)
 |0,_,_,_=>none
 |k5+1,ag,x3,x4=>if x4<(List.length ag:Int) then(((iD.l1 fuel ag x4 1).bind λx9=>if(0<=x4/\x4<(List.length ag:Int)) then(if(List.length x3+2<=1099511627776) then(some ((x3++[(bP (aa (x9-1))),(rd ag x4)]),(aa (x4+x9)))) else none) else none).bind λ(x6,x7)=>iD.l0 k5 ag x6 x7) else(some x3)
def iD.f (ag:(List Int)):Option (List Int):=iD.l0 fuel ag [2] 0
def iD.R (r:(List Int)):bm:=λu G=> ∃a0 n0 H0,aj (Fl.int .u8) 5 r a0 n0 H0/\u=(ll a0 r n0)/\G=[H0]
theorem iD.c (H:iD.f ag=some r) (Az:aU (Fl.int .u8) ag LD F) (aak:List.length ag<=OA):
 QR 104 [(ll LD ag OA)] [] [] F (iD.R r):=by
 unfold iD.f at H;refine aG Tryz.func104 J J (λW=>rc T 7 (aZ (cV (k:=(Fl.int .u8)) T [2] J J J J J J J J J (λa1 H1 s1=>ro T 10 (lq [0] [0] (λ(⟨k5,x3,x4,a3,n3,H3⟩:Nat×List Int×Int×Option Addr×Nat×Hp)=>(iD.l0 k5 ag x3 x4=some r/\aj (Fl.int .u8) 5 x3 a3 n3 H3,[(3,(ll a3 x3 n3)),(4,(ii x4))],[H3])) J J (fuel,[2],0,a1,(List.length [2]),H1) [0,0] ⟨H,s1⟩ J J ?_)))));rintro k5 ⟨x3,x4,a3,n3,H3⟩ ⟨Z1,s3⟩;rw[iD.l0] at Z1;refine rc T 9 (cd J Z1 (λZ1=>?_) (λZ1=>?_))
 ·refine rc T 2 (mn Z1 [0] [0] (λz8 (⟨x6,x7,a4,n4,H4⟩:List Int×Int×Option Addr×Nat×Hp)=>((x6,x7)=z8/\aj (Fl.int .u8) 5 x6 a4 n4 H4,[(3,(ll a4 x6 n4)),(4,(ii x7))],[H4])) J J (λz8 Z3 _=>?_) ?_)
  ·refine rc T 6 (mq Z3 [0,3,4] [0,0] (λoe (x9:Int)=>(x9=oe,[(5,(ii x9))],[])) J J (λoe Z4 _=>?_) ?_)
   ·refine rc T 1 (lq [0,3,4] [0,0] (λ(⟨ug,bg⟩:Nat×Int)=>(iD.l1 ug ag x4 bg=some oe,[(5,(ii bg))],[])) J J (fuel,1) [0,0] Z4 J J ?_);rintro ug bg Z5;replace Z5:iD.l1 (ug+1) ag x4 bg=some oe:=Z5;rw[iD.l1] at Z5;refine rc T 1 (mq Z5 [0,3,4,5] [0,0] (λIs (bf:Bool)=>(bf=Is,[(29,(bb bf))],[])) J J (λIs Z6 _=>?_) ?_)
    ·refine dD mix az ?_
     iterate 7 refine au T J ?_
     refine qd 17 J Z6 (λZ6=>?_) (λZ6=>?_)
     ·iterate 4 refine au T J ?_
      obtain⟨c8,Z6⟩:=aA Z6;obtain⟨q5,o5,e5⟩:=Az.addr c8.1 c8.2;refine aO J J J (cT T J J J J J e5 c8.1 c8.2) (aO J J J (aw T J J J J (iY (k:=(Fl.int .u8)) (rO Az 0) e5 c8 0 J)) (au T J (au T J ?_)));obtain⟨c9,Z6⟩:=aA Z6;refine aO J J J (cT T J J J J J e5 c9.1 c9.2) (aO J J J (aw T J J J J (iY (k:=(Fl.int .u8)) (rO Az 0) e5 c9 0 J)) (au T J (au T J (dg (rx T 1 (am _ [0,0] (oi Z6) J J))))))
     iterate 12 refine au T J ?_
     refine dg (rx T 1 (am _ [0,0] (oi Z6) J J))
    rintro _ bf rfl Z5;refine cb J Z5 (λZ5=>?_) (λZ5=>?_)
    ·refine rc T 10 (ar _ [0,0] Z5 J J)
    refine rc T 5 (am _ [0,0] (oi Z5) J J)
   rintro _ x9 rfl Z3;refine rc T 8 ?_;obtain⟨eH,Z3⟩:=aA Z3;obtain⟨q6,o6,e6⟩:=Az.addr eH.1 eH.2;refine ix T J e6 eH (le T 0 (rO Az 0) e6 eH J J (aZ (cV (k:=(Fl.int .u8)) T [(bP (aa (x9-1))),(rd ag x4)] J J J J J J J J J (λa7 H7 s7=>?_))));obtain⟨fW,Z3⟩:=aA Z3;refine aZ (ez (k:=(Fl.int .u8)) (xs:=x3) T (g:=1) J J J J J J J J J J s3 (oO s7 2) fW J (λa8 n8 H8 s8=>ro T 11 (am (_,_,_,_,_) [0,0] ⟨oi Z3,s8⟩ J J)))
  rintro _ ⟨x6,x7,a4,n4,H4⟩ ⟨rfl,s4⟩ Z1;refine rx T 1 (ar (_,_,_,_,_) [0,0] ⟨Z1,s4⟩ J J)
 refine rc T 12 ?_
 cases Z1;exact p1 T J [1,0] ⟨a3,n3,H3,s3,J,J⟩ J
def xF.f (t:aM):Option (Int×(List Int)):=(iD.f t.C).bind λv1=>if((List.length v1:Int)==3)=true then(if(0<=(0:Int)/\(0:Int)<(List.length t.C:Int)) then(some (0,[0,(rd t.C 0)])) else none) else(if(List.length v1:Int)<(aa (1+(List.length t.C:Int))) then(some (2,v1)) else(if(List.length [1]+List.length t.C<=1099511627776) then(some (1,([1]++t.C))) else none))
def xF.R (r:(Int×(List Int))):bm:=λu G=> ∃a0 n0 H0,aj (Fl.int .u8) 5 r.2 a0 n0 H0/\u=(.tuple #[(ii r.1),(ll a0 r.2 n0)])/\G=[H0]
theorem xF.c (H:xF.f t=some r) (dS:aU (Fl.int .u8) t.C iz F) (fo:List.length t.C<=iC):
 QR 75 [(.agg #[(ii t.W),(ii t.H),(ll iz t.C iC)])] [] [] F (xF.R r):=by
 unfold xF.f at H;refine aG Tryz.func75 J J (λW=>rc T 2 (nc T J (λb1=>ro T 7 (lf T 1 J (kr iD.R [] [] J acf H (iD.c · (rO dS 0) fo) (λv1 H=>?_))))));rintro _ _ ⟨a2,n2,H2,s2,rfl,rfl⟩;refine fz J (ro T 11 (cb J H (λH=>?_) (λH=>?_)))
 ·refine rc T 1 (ke [1] [0,0] J J (fz J (rg [] [0,0] mix (bM bL) (λhg pf=>ha T 6 [0] sz hg pf J (av 1 sz hg pf J (aw T J J J J (aI (j:=1) J J)) ?_)))));obtain⟨c3,H⟩:=aA H;obtain⟨q3,o3,e3⟩:=dS.addr c3.1 c3.2;refine av 2 sz hg pf J (cT T J J J J J e3 c3.1 c3.2) (av 3 sz hg pf J (aw T J J J J (iY (k:=(Fl.int .u8)) (rO dS 0) e3 c3 0 J)) (ha T 2 [5] sz hg pf J (ao 4 (cV (k:=(Fl.int .u8)) T [0,(rd t.C 0)] J J J J J J J J J (λa4 H4 s4=>an (so [0,0]) (ha T 0 [6] (so [0,0]) hg pf J (ae (rx T 3 ?_))))))))
  cases H;exact p1 T J [2,0] ⟨a4,(List.length [0,(rd t.C 0)]),H4,s4,J,J⟩ J
 refine rc T 8 (lf T 1 J (ro T 5 (cd J H (λH=>?_) (λH=>?_))))
 ·refine rc T 9 ?_
  cases H;exact p1 T J [2,0] ⟨a2,n2,H2,s2,J,J⟩ J
 refine rc T 4 (aZ (cV (k:=(Fl.int .u8)) T [1] J J J J J J J J J (λa5 H5 s5=>ro T 1 (lf T 1 J ?_))));obtain⟨c5,H⟩:=aA H;refine aZ (ez (k:=(Fl.int .u8)) (xs:=[1]) T (g:=3) J J J J J J J J J J s5 (rO dS 0) c5 J (λa6 n6 H6 s6=>ro T 3 (ke [2,3] [0,2] J J (rx T 2 ?_))))
 cases H;exact p1 T J [1,0] ⟨a6,n6,H6,s6,J,J⟩ J
def lr.l0:Nat->aM->List Int->Int->Option (List Int)
 |0,_,_,_=>none
 |k5+1,m,x3,x4=>(zt.f m.W m.H).bind λv6=>if x4<v6 then((nS.f m x4).bind λv7=>(xF.f v7).bind λv8=>if(List.length x3+List.length v8.2<=1099511627776) then(lr.l0 k5 m (x3++v8.2) (aa (x4+1))) else none) else(some x3)
def lr.f (m:aM):Option (List Int):=lr.l0 fuel m [(bP m.W),(bP (Int.fdiv m.W (2^8))),(bP m.H),(bP (Int.fdiv m.H (2^8)))] 0
def lr.R (r:(List Int)):bm:=λu G=> ∃a0 n0 H0,aj (Fl.int .u8) 5 r a0 n0 H0/\u=(ll a0 r n0)/\G=[H0]
theorem lr.c (H:lr.f m=some r) (sJ:aU (Fl.int .u8) m.C oX F) (uZ:List.length m.C<=oG):
 QR 45 [(.agg #[(ii m.W),(ii m.H),(ll oX m.C oG)])] [] [] F (lr.R r):=by
 unfold lr.f at H;refine aG Tryz.func45 J J (λW=>rc T 2 (nc T J (λb1=>ro T 6 (lf T 1 J (ro T 2 (lf T 1 J (ro T 3 (lf T 1 J (ro T 2 (lf T 1 J (ro T 2 (aZ (cV (k:=(Fl.int .u8)) T [(bP m.W),(bP (Int.fdiv m.W (2^8))),(bP m.H),(bP (Int.fdiv m.H (2^8)))] J J J J J J J J J (λa2 H2 s2=>ro T 10 (lq [1] [0,0] (λ(⟨k5,x3,x4,a4,n4,H4⟩:Nat×List Int×Int×Option Addr×Nat×Hp)=>(lr.l0 k5 m x3 x4=some r/\aj (Fl.int .u8) 5 x3 a4 n4 H4,[(3,(ll a4 x3 n4)),(4,(ii x4))],[H4])) J J (fuel,[(bP m.W),(bP (Int.fdiv m.W (2^8))),(bP m.H),(bP (Int.fdiv m.H (2^8)))],0,a2,(List.length [(bP m.W),(bP (Int.fdiv m.W (2^8))),(bP m.H),(bP (Int.fdiv m.H (2^8)))]),H2) [0,0,0] ⟨H,s2⟩ J J ?_)))))))))))))));rintro k5 ⟨x3,x4,a4,n4,H4⟩ ⟨Z1,s4⟩;rw[lr.l0] at Z1;refine rc T 5 (lf T 1 J (ro T 1 (lf T 1 J (k [] J Tl Z1 (zt.c ·) (λv6 Z1=>ro T 3 (cd J Z1 (λZ1=>?_) (λZ1=>?_)))))))
 ·refine rc T 6 (lm T 1 J (ro T 1 (kr nS.R [] [] J ad4 Z1 (nS.c · (rO sJ 0) uZ) (λv7 Z1=>?_))));rintro _ _ ⟨a5,n5,H5,s5,rfl,rfl⟩;refine fz J (kr xF.R [] [] J ad3 Z1 (xF.c · (oO s5 3) s5.bW) (λv8 Z1=>?_));rintro _ _ ⟨a6,n6,H6,s6,rfl,rfl⟩;refine fz J (ro T 10 ?_);obtain⟨c6,Z1⟩:=aA Z1;refine aZ (ez (k:=(Fl.int .u8)) (xs:=x3) T (g:=2) J J J J J J J J J J s4 (oO s6 4) c6 J (λa7 n7 H7 s7=>ro T 10 (ar (_,_,_,_,_) [0,0,0] ⟨Z1,s7⟩ J J)))
 refine rc T 12 ?_
 cases Z1;exact p1 T J [2,0] ⟨a4,n4,H4,s4,J,J⟩ J
end
noncomputable section
def xG.f (x:sL) (n:Int):Option cS:=((fE.f x.B 1 6).bind λv6=>(fE.f x.A 0 5).bind λv7=>(fE.f x.A 0 9).bind λv8=>some (v6,(aa (n+v7)),v8,([]:List Int))).bind λ(x1,x2,x3,x4)=>if(x1==1)=true then(some (cS.mk x1 0 0 [2,0,1,0,1,(bP x.A),(bP x.B)])) else(if(x1==2)=true then((fE.f x.A 0 (aa (n-1))).bind λcD=>(fE.f x.A 0 1).bind λdG=>some (cS.mk x1 cD (aa (dG*255)) x4)) else(if(x1==5)=true then(some (cS.mk x1 x2 0 x4)) else(some (cS.mk x1 x2 x3 x4))))
def xG.R (r:cS):bm:=λu G=> ∃a0 n0 H0,aj (Fl.int .u8) 5 r.Map a0 n0 H0/\u=(.agg #[(ii r.Kind),(ii r.A),(ii r.B),(ll a0 r.Map n0)])/\G=[H0]
theorem xG.c (H:xG.f x n=some r):
 QR 50 [(.agg #[(ii x.Kind),(ii x.A),(ii x.B)]),(ii n)] [] [] F (xG.R r):=by
 unfold xG.f at H;refine aG Tryz.func50 J J (λW=>rc T 2 (nc T J (λb1=>nc T J (λb2=>ro T 2 (mq H [1,2,4] [0,0,0] (λz5 (⟨x1,x2,x3,x4,b3,a4,n4,H4⟩:Int×Int×Int×List Int×Nat×Option Addr×Nat×Hp)=>((x1,x2,x3,x4)=z5/\aj (Fl.int .u8) 5 x4 a4 n4 H4,[(5,(pp b3))],[(cl b3 55 [(ii x1),(ii x2),(ii x3),(ll a4 x4 n4)]),H4])) J J (λz5 Z1 _=>?_) ?_)))))
 ·refine ks [1,2,4] J (fz J (rz [] mix (bM bL) (λhg pf=>ha T 13 [0] sz hg pf J (av 1 sz hg pf J (aw T J J J J (aI (j:=1) J J)) (ha T 10 [3,4] sz hg pf J (av 5 sz hg pf J (aw T J J J J (aI (j:=1) J J)) (ha T 8 [8] sz hg pf J (av 9 sz hg pf J (aw T J J J J (aI (j:=1) J J)) (fk 2 12 ?_ ?_)))))))))
  ·refine kh [] J l9 Z1 (fE.c ·) (λv6 Z1=>an sz (fk 6 12 ?_ ?_))
   ·refine kh [] J l9 Z1 (fE.c ·) (λv7 Z1=>an sz (ha T 4 [7] sz hg pf J (fk 10 12 ?_ ?_)))
    ·refine kh [] J l9 Z1 (fE.c ·) (λv8 Z1=>an sz (ha T 2 [11] sz hg pf J (ao 12 (nw T J (λb5=>an (so [0,0,0]) (ao 13 (sf T 3 J (an (so [0,0,0]) (ae (rx T 1 (bC (am (_,_,_,_,_,_,_,_) [0,0,0,0,0] ⟨oi Z1,aj.nil⟩ J J))))))))))))
    refine nw T J (λb6=>an (so [0,0,0]) (ao 10 (kh [] J l9 Z1 (fE.c ·) (λv9 Z1=>an (so [0,0,0]) (ha T 1 [11] (so [0,0,0]) hg pf J (ao 13 (sf T 3 J (an (so [0,0,0]) (ae (rx T 1 (bC (am (_,_,_,_,_,_,_,_) [0,0,0,0,0] ⟨oi Z1,aj.nil⟩ J J))))))))))))
   refine nw T J (λb7=>an (so [0,0,0]) (ao 6 (kh [] J l9 Z1 (fE.c ·) (λv10 Z1=>an (so [0,0,0]) (ha T 3 [7] (so [0,0,0]) hg pf J (ao 10 (kh [] J l9 Z1 (fE.c ·) (λv11 Z1=>an (so [0,0,0]) (ha T 1 [11] (so [0,0,0]) hg pf J (ao 13 (sf T 3 J (an (so [0,0,0]) (ae (rx T 1 (bC (am (_,_,_,_,_,_,_,_) [0,0,0,0,0] ⟨oi Z1,aj.nil⟩ J J))))))))))))))))
  refine nw T J (λb8=>an (so [0,0,0]) (ao 2 (kh [] J l9 Z1 (fE.c ·) (λv12 Z1=>an (so [0,0,0]) (ao 6 (kh [] J l9 Z1 (fE.c ·) (λlz Z1=>an (so [0,0,0]) (ha T 3 [7] (so [0,0,0]) hg pf J (ao 10 (kh [] J l9 Z1 (fE.c ·) (λdq Z1=>an (so [0,0,0]) (ha T 1 [11] (so [0,0,0]) hg pf J (ao 13 (sf T 3 J (an (so [0,0,0]) (ae (rx T 1 (bC (am (_,_,_,_,_,_,_,_) [0,0,0,0,0] ⟨oi Z1,aj.nil⟩ J J)))))))))))))))))))
 rintro _ ⟨x1,x2,x3,x4,b3,a4,n4,H4⟩ ⟨rfl,s4⟩ H;refine rc T 4 (lf T 3 J (ro T 9 (cb J H (λH=>?_) (λH=>?_))))
 ·refine fz J (rg [12] [0,0,0,1] mix (bM bL) (λhg pf=>ha T 12 [0] (so [0,0,0,1]) hg pf J (av 1 (so [0,0,0,1]) hg pf J (aw T J J J J (aI (j:=1) J J)) (ha T 9 [2,3] (so [0,0,0,1]) hg pf J (av 4 (so [0,0,0,1]) hg pf J (aw T J J J J (aI (j:=1) J J)) (ha T 6 [5,7] (so [0,0,0,1]) hg pf J (fk 6 8 ?_ ?_)))))))
  ·refine cV (k:=(Fl.int .u8)) T [2,0,1,0,1,(bP x.A),(bP x.B)] J J J J J J J J J (λa9 H9 s9=>an (so [0,0,0,1]) (ao 8 (sf T 3 J (an (so [0,0,0,1]) (ha T 3 [9] (so [0,0,0,1]) hg pf J (ao 10 (sf T 3 J (an (so [0,0,0,1]) (ha T 1 [11] (so [0,0,0,1]) hg pf J (ao 12 (sf T 3 J (an sl (ae (rx T 4 (lm T 3 J (sg T 2 J (ro T 3 ?_)))))))))))))))))
   cases H;exact pb T J (.cN (j:=2) [(ii x1),(ii 0),(ii 0),(ll a9 [2,0,1,0,1,(bP x.A),(bP x.B)] (List.length [2,0,1,0,1,(bP x.A),(bP x.B)]))] J J J J J J J .nil) [5,0] ⟨(_,_),a9,(List.length [2,0,1,0,1,(bP x.A),(bP x.B)]),H9,s9,J,J⟩ J J
  refine sf T 3 J (an (so [0,0,0,1]) (ha T 4 [9] (so [0,0,0,1]) hg pf J (fk 6 10 ?_ ?_)))
  ·refine cV (k:=(Fl.int .u8)) T [2,0,1,0,1,(bP x.A),(bP x.B)] J J J J J J J J J (λcw bZ bU=>an (so [0,0,0,1]) (ao 10 (sf T 3 J (an (so [0,0,0,1]) (ha T 1 [11] (so [0,0,0,1]) hg pf J (ao 12 (sf T 3 J (an sl (ae (rx T 4 (lm T 3 J (sg T 2 J (ro T 3 ?_)))))))))))))
   cases H;exact pb T J (.cN (j:=2) [(ii x1),(ii 0),(ii 0),(ll cw [2,0,1,0,1,(bP x.A),(bP x.B)] (List.length [2,0,1,0,1,(bP x.A),(bP x.B)]))] J J J J J J J .nil) [5,0] ⟨(_,_),cw,(List.length [2,0,1,0,1,(bP x.A),(bP x.B)]),bZ,bU,J,J⟩ J J
  refine sf T 3 J (an (so [0,0,0,1]) (ao 6 (cV (k:=(Fl.int .u8)) T [2,0,1,0,1,(bP x.A),(bP x.B)] J J J J J J J J J (λdA cB dj=>an (so [0,0,0,1]) (ha T 1 [11] (so [0,0,0,1]) hg pf J (ao 12 (sf T 3 J (an sl (ae (rx T 4 (lm T 3 J (sg T 2 J (ro T 3 ?_)))))))))))))
  cases H;exact pb T J (.cN (j:=2) [(ii x1),(ii 0),(ii 0),(ll dA [2,0,1,0,1,(bP x.A),(bP x.B)] (List.length [2,0,1,0,1,(bP x.A),(bP x.B)]))] J J J J J J J .nil) [5,0] ⟨(_,_),dA,(List.length [2,0,1,0,1,(bP x.A),(bP x.B)]),cB,dj,J,J⟩ J J
 refine rc T 6 (cb J H (λH=>?_) (λH=>?_))
 ·refine rc T 3 (lf T 1 J (ro T 2 (k [] J l9 H (fE.c ·) (λcD H=>ro T 1 (sg T 3 J (ro T 4 (lf T 1 J (k [] J l9 H (fE.c ·) (λdG H=>ro T 2 (sg T 3 J (ro T 5 (lm T 3 J (sg T 2 J (ro T 1 (ke [4] [0,1,2] J J (rx T 1 (rc T 1 ?_)))))))))))))))))
  cases H;exact pb T J (.cN (j:=1) [(ii x1),(ii cD),(ii (aa (dG*255))),(ll a4 x4 n4)] J J J J J J J .nil) [2,0] ⟨(_,_),a4,n4,H4,s4,J,J⟩ J J
 refine rc T 6 (cb J H (λH=>?_) (λH=>?_))
 ·refine rc T 2 (sg T 3 J (ro T 5 (lm T 3 J (sg T 2 J (ro T 3 ?_)))))
  cases H;exact pb T J (.cN (j:=2) [(ii x1),(ii x2),(ii 0),(ll a4 x4 n4)] J J J J J J J .nil) [4,0] ⟨(_,_),a4,n4,H4,s4,J,J⟩ J J
 refine rc T 5 (lm T 3 J (sg T 2 J (ro T 3 ?_)))
 cases H;exact pb T J (.cN (j:=2) [(ii x1),(ii x2),(ii x3),(ll a4 x4 n4)] J J J J J J J .nil) [4,0] ⟨(_,_),a4,n4,H4,s4,J,J⟩ J J
def nT.l0:Nat->Int->Int->(List Int)->(List sL)->Int->Int->List Int->List cS->Int->Int->Option (List cS)
 |0,_,_,_,_,_,_,_,_,_,_=>none
 |lK+1,w,h,p2,l,x9,aN,bd,bg,aS,bf=>if((decide (bf<(List.length l:Int)))&&(decide (bf<60)))=true then(if(0<=bf/\bf<(List.length l:Int)) then(((fE.f ((rd l bf).A) 0 (aa (aS-1))).bind λv21=>(fE.f ((rd l bf).B) 0 (aa (aS-1))).bind λv22=>some ((0:Int),v21,v22,([]:List Int))).bind λ(dR,cZ,dw,dC)=>((fE.f ((rd l bf).Kind) 0 15).bind λv35=>(if(v35==0)=true then(some (v35==0)) else(if(v35==1)=true then(some (v35==1)) else(some (v35==2)))).bind λwA=>if wA=true then(some (x9,aN,bd,aS,(3:Int),cZ,dw,dC)) else(if(v35==3)=true then((fE.f ((rd l bf).A) 0 9).bind λoQ=>some (x9,aN,bd,aS,(4:Int),oQ,dw,dC)) else(if(v35==4)=true then((fE.f ((rd l bf).A) 0 9).bind λv39=>some (x9,aN,bd,aS,(5:Int),v39,(0:Int),dC)) else((if(v35==5)=true then(some (v35==5)) else(some (v35==6))).bind λgu=>if gu=true then((vS.f (bP ((rd l bf).B))).bind λLe=>some (x9,aN,bd,aS,(2:Int),cZ,(aa Le),dC)) else((if(v35==7)=true then(some (v35==7)) else(some (v35==8))).bind λfI=>if fI=true then(some (x9,aN,bd,aS,(6:Int),cZ,dw,dC)) else(if(v35==9)=true then(some (x9,aN,bd,aS,(8:Int),(0:Int),(0:Int),([]:List Int))) else(if(v35==10)=true then(if((Int.tmod (rd l bf).A 4)==0)=true then((lp.f (aa (w+(aa (Int.tdiv (rd l bf).A 4)))) (aa (h+(rd l bf).B)) p2).bind λv45=>(lr.f v45).bind λv46=>some (v45.W,v45.H,v45.C,(List.length v45.C:Int),(1:Int),(0:Int),(0:Int),v46)) else((fE.f ((rd l bf).B) 0 200).bind λqt=>some (x9,aN,bd,aS,(0:Int),(aa (9+qt)),(0:Int),([]:List Int)))) else(if(v35==11)=true then((xG.f (rd l bf) aS).bind λIa=>some (x9,aN,bd,aS,Ia.Kind,Ia.A,Ia.B,Ia.Map)) else(some (x9,aN,bd,aS,(7:Int),(0:Int),(0:Int),([]:List Int))))))))))).bind λ(j5,mj,nk,jc,Bt,ml,wz,od)=>if(List.length bg+1<=1099511627776) then(nT.l0 lK w h p2 l j5 mj nk (bg++[(cS.mk Bt ml wz od)]) jc (aa (bf+1))) else none) else none) else(some bg)
def nT.f (w:Int) (h:Int) (p2:(List Int)) (l:(List sL)):Option (List cS):=(lp.f w h p2).bind λv1=>(lr.f v1).bind λv2=>nT.l0 fuel w h p2 l v1.W v1.H v1.C [(cS.mk 1 0 0 v2)] (List.length v1.C:Int) 0
def nT.R (r:(List cS)):bm:=λu G=> ∃a0 n0 H0,gF Hn 55 r a0 n0 H0/\u=(ll a0 r n0)/\G=[H0]
theorem nT.c (H:nT.f w h p2 l=some r) (B4:aU (Fl.int .u8) p2 Ft F) (FN:List.length p2<=Hc) (dh:aU GQ l iy F) (gz:List.length l<=iq):
 QR 20 [(ii w),(ii h),(ll Ft p2 Hc),(ll iy l iq)] [] [] F (nT.R r):=by
 unfold nT.f at H;refine aG Tryz.func20 J J (λW=>rc T 10 (kr lp.R [] [] J Tz H (lp.c · (rO B4 0) FN) (λv1 H=>?_)));rintro _ _ ⟨a1,n1,H1,s1,rfl,rfl⟩;refine fz J (nc T J (λb2=>sg T 2 J (ro T 4 (lm T 2 J (kr lr.R [] [] J Ns H (lr.c · (oO s1 1) s1.bW) (λv2 H=>?_))))));rintro _ _ ⟨a3,n3,H3,s3,rfl,rfl⟩;refine fz J (ro T 1 (gw [3] J (aZ (FD (kd:=Hn) (E:=55) (q:=3) (c:=[(ii 1),(ii 0),(ii 0),(ll a3 v2 n3)]) T (cS.mk 1 0 0 v2) J J J J J J J J J J ⟨a3,n3,H3,s3,J,J⟩ (λa5 H5 s5=>ro T 6 (lf T 2 J (ro T 11 (lq [0,1,2,3,9] [0] (λ(⟨lK,x9,aN,bd,bg,aS,bf,a8,n8,H8,a9,n9,H9⟩:Nat×Int×Int×List Int×List cS×Int×Int×Option Addr×Nat×Hp×Option Addr×Nat×Hp)=>(nT.l0 lK w h p2 l x9 aN bd bg aS bf=some r/\aj (Fl.int .u8) 5 bd a8 n8 H8/\gF Hn 55 bg a9 n9 H9,[(10,(ll a9 bg n9)),(11,(ii aS)),(12,(ii bf))],[(cl b2 30 [(ii x9),(ii aN),(ll a8 bd n8)]),H8,H9])) J J (fuel,v1.W,v1.H,v1.C,[(cS.mk 1 0 0 v2)],(List.length v1.C:Int),0,a1,n1,H1,a5,(List.length [(cS.mk 1 0 0 v2)]),H5) [0,1,0,1] ⟨H,s1,s5⟩ J J ?_))))))));rintro lK ⟨x9,aN,bd,bg,aS,bf,a8,n8,H8,a9,n9,H9⟩ ⟨Z3,s8,s9⟩;rw[nT.l0] at Z3;refine rc T 8 (ga T [5,6,7] 30 [0,1,2,3,9,10,11,12] 33 J J J J J J J (ro T 2 (cb J Z3 (λZ3=>?_) (λZ3=>?_))))
 ·refine rc T 8 ?_;obtain⟨c5,Z3⟩:=aA Z3;obtain⟨KL,KB,pZ⟩:=dh.addr c5.1 c5.2;refine ix T J pZ c5 (bz J (fX T (cs:=[(ii (rd l bf).Kind),(ii (rd l bf).A),(ii (rd l bf).B)]) J J J J J J (ig (k:=GQ) (rO dh 0) pZ c5 J)) (nc T J (λjC=>sg T 4 J (ro T 2 (mq Z3 [0,1,2,3,9,10,11,12,13] [0,0,0,0,0] (λz20 (⟨dR,cZ,dw,dC,kz,dH,n13,eJ⟩:Int×Int×Int×List Int×Nat×Option Addr×Nat×Hp)=>((dR,cZ,dw,dC)=z20/\aj (Fl.int .u8) 5 dC dH n13 eJ,[(14,(pp kz))],[(cl kz 55 [(ii dR),(ii cZ),(ii dw),(ll dH dC n13)]),eJ])) J J (λz20 Z6 _=>?_) ?_)))))
  ·refine ks [0,1,2,3,9,10,11,12,13] J (fz J (rz [] mix (bM bL) (λhg pf=>ha T 12 [0] sz hg pf J (av 1 sz hg pf J (aw T J J J J (aI (j:=4) J J)) (ha T 8 [2,3,5] sz hg pf J (av 6 sz hg pf J (aw T J J J J (aI (j:=4) J J)) (ha T 5 [7,8] sz hg pf J (fk 4 11 ?_ ?_))))))))
   ·refine kh [] J l9 Z6 (fE.c ·) (λv21 Z6=>an sz (fk 9 11 ?_ ?_))
    ·refine kh [] J l9 Z6 (fE.c ·) (λv22 Z6=>an sz (ha T 2 [10] sz hg pf J (ao 11 (nw T J (λFG=>an (so [0,0,0,0,0]) (ao 12 (sf T 5 J (an (so [0,0,0,0,0]) (ae (rx T 1 (bC (am (_,_,_,_,_,_,_,_) [0,0,0,0,0,0,0] ⟨oi Z6,aj.nil⟩ J J))))))))))))
    refine nw T J (λnt=>an (so [0,0,0,0,0]) (ao 9 (kh [] J l9 Z6 (fE.c ·) (λv23 Z6=>an (so [0,0,0,0,0]) (ha T 1 [10] (so [0,0,0,0,0]) hg pf J (ao 12 (sf T 5 J (an (so [0,0,0,0,0]) (ae (rx T 1 (bC (am (_,_,_,_,_,_,_,_) [0,0,0,0,0,0,0] ⟨oi Z6,aj.nil⟩ J J))))))))))))
   refine nw T J (λpV=>an (so [0,0,0,0,0]) (ao 4 (kh [] J l9 Z6 (fE.c ·) (λv24 Z6=>an (so [0,0,0,0,0]) (ao 9 (kh [] J l9 Z6 (fE.c ·) (λv25 Z6=>an (so [0,0,0,0,0]) (ha T 1 [10] (so [0,0,0,0,0]) hg pf J (ao 12 (sf T 5 J (an (so [0,0,0,0,0]) (ae (rx T 1 (bC (am (_,_,_,_,_,_,_,_) [0,0,0,0,0,0,0] ⟨oi Z6,aj.nil⟩ J J)))))))))))))))
  rintro _ ⟨dR,cZ,dw,dC,kz,dH,n13,eJ⟩ ⟨rfl,dm⟩ Z3;refine mq Z3 [0,1,2,3,9,10,12,14] [0,2] (λXF (⟨j5,mj,nk,jc,Bt,ml,wz,od,a17,n17,eF,iU,n18,fe⟩:Int×Int×List Int×Int×Int×Int×Int×List Int×Option Addr×Nat×Hp×Option Addr×Nat×Hp)=>((j5,mj,nk,jc,Bt,ml,wz,od)=XF/\aj (Fl.int .u8) 5 nk a17 n17 eF/\aj (Fl.int .u8) 5 od iU n18 fe,[(11,(ii jc))],[(cl b2 30 [(ii j5),(ii mj),(ll a17 nk n17)]),eF,(cl kz 55 [(ii Bt),(ii ml),(ii wz),(ll iU od n18)]),fe])) J J (λXF bx _=>?_) ?_
  ·refine rc T 3 (lf T 4 J (k [] J l9 bx (fE.c ·) (λv35 bx=>ro T 3 (mq bx [0,1,2,3,9,10,11,12,13,14,53] [0,0,0,0,0,0,0] (λz37 (wA:Bool)=>(wA=z37,[(55,(bb wA))],[])) J J (λz37 cj _=>?_) ?_))))
   ·refine rc T 6 (cb J cj (λcj=>?_) (λcj=>?_))
    ·refine rc T 2 (am _ [0,0,0,0,0,0,0] (oi cj) J J)
    refine rc T 6 (cb J cj (λcj=>?_) (λcj=>?_))
    ·refine rc T 2 (am _ [0,0,0,0,0,0,0] (oi cj) J J)
    refine rc T 5 (am _ [0,0,0,0,0,0,0] (oi cj) J J)
   rintro _ wA rfl bx;refine cb J bx (λbx=>?_) (λbx=>?_)
   ·refine rc T 2 (sg T 5 J (ro T 3 (am (_,_,_,_,_,_,_,_,_,_,_,_,_,_) [0,2,0,0,1,1] ⟨oi bx,s8,dm⟩ J J)))
   refine rc T 6 (cb J bx (λbx=>?_) (λbx=>?_))
   ·refine rc T 2 (lf T 4 J (k [] J l9 bx (fE.c ·) (λoQ bx=>ro T 1 (sg T 5 J (ro T 1 (sg T 5 J (ro T 3 (am (_,_,_,_,_,_,_,_,_,_,_,_,_,_) [0,2,0,0,1,1] ⟨oi bx,s8,dm⟩ J J))))))))
   refine rc T 6 (cb J bx (λbx=>?_) (λbx=>?_))
   ·refine rc T 2 (lf T 4 J (k [] J l9 bx (fE.c ·) (λv39 bx=>ro T 1 (sg T 5 J (ro T 1 (sg T 5 J (ro T 1 (sg T 5 J (ro T 3 (am (_,_,_,_,_,_,_,_,_,_,_,_,_,_) [0,2,0,0,1,1] ⟨oi bx,s8,dm⟩ J J))))))))))
   refine mq bx [0,1,2,3,9,10,11,12,13,14,53] [0,0,0,0,0,0,0] (λz41 (gu:Bool)=>(gu=z41,[(75,(bb gu))],[])) J J (λz41 Fh _=>?_) ?_
   ·refine rc T 6 (cb J Fh (λFh=>?_) (λFh=>?_))
    ·refine rc T 2 (am _ [0,0,0,0,0,0,0] (oi Fh) J J)
    refine rc T 5 (am _ [0,0,0,0,0,0,0] (oi Fh) J J)
   rintro _ gu rfl bx;refine cb J bx (λbx=>?_) (λbx=>?_)
   ·refine rc T 2 (lf T 4 J (ro T 1 (k [] J Nt bx (vS.c ·) (λLe bx=>ro T 2 (sg T 5 J (ro T 1 (sg T 5 J (ro T 3 (am (_,_,_,_,_,_,_,_,_,_,_,_,_,_) [0,2,0,0,1,1] ⟨oi bx,s8,dm⟩ J J)))))))))
   refine mq bx [0,1,2,3,9,10,11,12,13,14,53] [0,0,0,0,0,0,0] (λz44 (fI:Bool)=>(fI=z44,[(85,(bb fI))],[])) J J (λz44 Fi _=>?_) ?_
   ·refine rc T 6 (cb J Fi (λFi=>?_) (λFi=>?_))
    ·refine rc T 2 (am _ [0,0,0,0,0,0,0] (oi Fi) J J)
    refine rc T 5 (am _ [0,0,0,0,0,0,0] (oi Fi) J J)
   rintro _ fI rfl bx;refine cb J bx (λbx=>?_) (λbx=>?_)
   ·refine rc T 2 (sg T 5 J (ro T 3 (am (_,_,_,_,_,_,_,_,_,_,_,_,_,_) [0,2,0,0,1,1] ⟨oi bx,s8,dm⟩ J J)))
   refine rc T 6 (cb J bx (λbx=>?_) (λbx=>?_))
   ·refine rc T 2 (sg T 5 J (ro T 3 (bC (am (_,_,_,_,_,_,_,_,_,_,_,_,_,_) [0,2,0,0,1,2] ⟨oi bx,s8,aj.nil⟩ J J))))
   refine rc T 6 (cb J bx (λbx=>?_) (λbx=>?_))
   ·refine rc T 3 (lf T 4 J (ro T 4 (cb J bx (λbx=>?_) (λbx=>?_))))
    ·refine rc T 4 (lf T 4 J (ro T 4 (lf T 4 J (ro T 2 (kr lp.R [] [] J Tz bx (lp.c · (rO B4 0) FN) (λv45 bx=>?_))))));rintro _ _ ⟨mr,n19,kn,gp,rfl,rfl⟩;refine fz J (sg T 1 J (ro T 5 (lf T 1 J (ro T 5 (lm T 1 J (kr lr.R [] [] J Ns bx (lr.c · (oO gp 7) gp.bW) (λv46 bx=>?_)))))));rintro _ _ ⟨a20,n20,oh,me,rfl,rfl⟩;refine fz J (ro T 1 (sg T 5 J (ro T 3 (am (_,_,_,_,_,_,_,_,_,_,_,_,_,_) [0,2,0,4,2,3] ⟨oi bx,gp,me⟩ J J))))
    refine rc T 2 (lf T 4 J (k [] J l9 bx (fE.c ·) (λqt bx=>ro T 2 (sg T 5 J (ro T 3 (bC (am (_,_,_,_,_,_,_,_,_,_,_,_,_,_) [0,2,0,0,1,2] ⟨oi bx,s8,aj.nil⟩ J J)))))))
   refine rc T 6 (cb J bx (λbx=>?_) (λbx=>?_))
   ·refine rc T 1 (lm T 4 J (ro T 1 (kr xG.R [] [] J adW bx (xG.c ·) (λIa bx=>?_))));rintro _ _ ⟨a21,n21,lC,jY,rfl,rfl⟩;refine fz J (sg T 5 J (ro T 3 (am (_,_,_,_,_,_,_,_,_,_,_,_,_,_) [0,2,0,0,1,2] ⟨oi bx,s8,jY⟩ J J)))
   refine rc T 2 (sg T 5 J (ro T 3 (bC (am (_,_,_,_,_,_,_,_,_,_,_,_,_,_) [0,2,0,0,1,2] ⟨oi bx,s8,aj.nil⟩ J J))))
  rintro _ ⟨j5,mj,nk,jc,Bt,ml,wz,od,a17,n17,eF,iU,n18,fe⟩ ⟨rfl,fq,ft⟩ Z3;refine rc T 2 (lm T 4 J (gw [5] J (aZ (FD (kd:=Hn) (E:=55) (q:=5) (c:=[(ii Bt),(ii ml),(ii wz),(ll iU od n18)]) T (cS.mk Bt ml wz od) J J J J J J J J J J ⟨iU,n18,fe,ft,J,J⟩ (λa23 jQ g_=>?_)))));obtain⟨c37,Z3⟩:=aA Z3;refine aZ (FC (kd:=Hn) (xs:=bg) (ys:=[(cS.mk Bt ml wz od)]) T (g:=1) (q:=6) J J J J J J J J J J s9 J J g_ c37 J (λa24 n24 qx lO=>ro T 10 (ar (_,_,_,_,_,_,_,_,_,_,_,_) [0,1,1,0] ⟨Z3,fq,lO⟩ J J)))
 refine rc T 12 ?_
 cases Z3;exact p1 T J [3,0] ⟨a9,n9,H9,s9,J,J⟩ J
end
noncomputable section
def Cy.f (x:Int) (y:Int):Option (Int×Int):=some ((cY ((cY ((cY ((Int.fdiv x (2^32))*(Int.fdiv y (2^32))))+(Int.fdiv (cY ((cY ((Int.fdiv x (2^32))*(cY (BitVec.toNat (BitVec.ofInt (IntKind.bits .u64) y&&&BitVec.ofInt (IntKind.bits .u64) 4294967295)))))+(Int.fdiv (cY ((cY (BitVec.toNat (BitVec.ofInt (IntKind.bits .u64) x&&&BitVec.ofInt (IntKind.bits .u64) 4294967295)))*(cY (BitVec.toNat (BitVec.ofInt (IntKind.bits .u64) y&&&BitVec.ofInt (IntKind.bits .u64) 4294967295))))) (2^32)))) (2^32))))+(Int.fdiv (cY ((cY (BitVec.toNat (BitVec.ofInt (IntKind.bits .u64) (cY ((cY ((Int.fdiv x (2^32))*(cY (BitVec.toNat (BitVec.ofInt (IntKind.bits .u64) y&&&BitVec.ofInt (IntKind.bits .u64) 4294967295)))))+(Int.fdiv (cY ((cY (BitVec.toNat (BitVec.ofInt (IntKind.bits .u64) x&&&BitVec.ofInt (IntKind.bits .u64) 4294967295)))*(cY (BitVec.toNat (BitVec.ofInt (IntKind.bits .u64) y&&&BitVec.ofInt (IntKind.bits .u64) 4294967295))))) (2^32))))&&&BitVec.ofInt (IntKind.bits .u64) 4294967295)))+(cY ((cY (BitVec.toNat (BitVec.ofInt (IntKind.bits .u64) x&&&BitVec.ofInt (IntKind.bits .u64) 4294967295)))*(Int.fdiv y (2^32)))))) (2^32)))),(cY (x*y)))
theorem Cy.c (H:Cy.f x y=some r):
 QU 269 [(uu x),(uu y)] [] F (.tuple #[(uu r.1),(uu r.2)]):=by
 unfold Cy.f at H;refine aG Tryz.func269 J J (λW=>rc T 99 ?_)
 cases H;exact p0 T J [0] J
def sP.f (x:Int) (y:Int):Option (Int×Int):=(Cy.f x y).bind λv1=>some (v1.1,v1.2)
theorem sP.c (H:sP.f x y=some r):
 QU 239 [(uu x),(uu y)] [] F (.tuple #[(uu r.1),(uu r.2)]):=by
 unfold sP.f at H;refine aG Tryz.func239 J J (λW=>rc T 7 (eY J (rc T 6 (k [] J adB H (Cy.c ·) (λv1 H=>ro T 16 ?_)))))
 cases H;exact p0 T J [0] J
def G4.f (x:Int):Option Int:=(if x≥4294967296 then(some ((Int.fdiv x (2^32)),(32:Int))) else(some (x,(0:Int)))).bind λ(x1,x2)=>(if x1≥65536 then(some ((Int.fdiv x1 (2^16)),(aa (x2+16)))) else(some (x1,x2))).bind λ(x4,x5)=>if x4≥256 then(if(0<=(bP (Int.fdiv x4 (2^8)))/\(bP (Int.fdiv x4 (2^8)))<(List.length ET:Int)) then(some (aa ((aa (x5+8))+(aa (rd ET (bP (Int.fdiv x4 (2^8)))))))) else none) else(if(0<=(bP x4)/\(bP x4)<(List.length ET:Int)) then(some (aa (x5+(aa (rd ET (bP x4)))))) else none)
theorem G4.c (H:G4.f x=some r):
 QU 264 [(uu x)] [] F (ii r):=by
 unfold G4.f at H;refine aG Tryz.func264 J J (λW=>rc T 5 (mq H [] [0] (λz3 (⟨x1,x2⟩:Int×Int)=>((x1,x2)=z3,[(0,(uu x1)),(2,(ii x2))],[])) J J (λz3 Z1 _=>?_) ?_))
 ·refine rc T 6 (cd J Z1 (λZ1=>?_) (λZ1=>?_))
  ·refine rc T 11 (am (_,_) [0] (oi Z1) J J)
  refine rc T 2 (am (_,_) [0] (oi Z1) J J)
 rintro _ ⟨x1,x2⟩ rfl H;refine mq H [] [0] (λz6 (⟨x4,x5⟩:Int×Int)=>((x4,x5)=z6,[(0,(uu x4)),(2,(ii x5))],[])) J J (λz6 Z3 _=>?_) ?_
 ·refine rc T 6 (cd J Z3 (λZ3=>?_) (λZ3=>?_))
  ·refine rc T 13 (am (_,_) [0] (oi Z3) J J)
  refine rc T 2 (am (_,_) [0] (oi Z3) J J)
 rintro _ ⟨x4,x5⟩ rfl H;refine rc T 7 (cd J H (λH=>?_) (λH=>?_))
 ·refine rc T 18 ?_;obtain⟨c6,H⟩:=aA H;refine bz J (R7 T ET J J J J J c6) (ro T 6 ?_)
  cases H;exact p0 T J [0] J
 refine rc T 7 ?_;obtain⟨c7,H⟩:=aA H;refine bz J (R7 T ET J J J J J c7) (ro T 6 ?_)
 cases H;exact p0 T J [0] J
def G3.f (x:Int):Option Int:=(G4.f x).bind λv1=>some v1
theorem G3.c (H:G3.f x=some r):
 QU 235 [(uu x)] [] F (ii r):=by
 unfold G3.f at H;refine aG Tryz.func235 J J (λW=>rc T 6 (eY J (rc T 5 (k [] J ady H (G4.c ·) (λv1 H=>ro T 4 ?_)))))
 cases H;exact p0 T J [0] J
end
noncomputable section
def lH.l0:Nat->(Int×Int)->Int->List Int->Int->Option (List Int)
 |0,_,_,_,_=>none
 |zd+1,v1,x2,x9,aN=>if aN<(aa v1.2) then(if(0<=aN/\aN<=(List.length x9:Int)/\(List.length x9:Int)<=(List.length x9:Int)) then(if(0<=(0:Int)/\(0:Int)<=(if x2<aN then x2 else aN)/\(if x2<aN then x2 else aN)<=(List.length x9:Int)) then(lH.l0 zd v1 x2 (cg x9 (Int.toNat aN) (min (List.length (aB x9 0 (if x2<aN then x2 else aN))) (List.length (aB x9 aN (List.length x9:Int)))) (aB x9 0 (if x2<aN then x2 else aN))) (aa (aN+(((min (List.length (aB x9 0 (if x2<aN then x2 else aN))) (List.length (aB x9 aN (List.length x9:Int)))):Nat):Int)))) else none) else none) else(some x9)
def lH.f (b:(List Int)) (count:Int):Option (List Int):=if(count==0)=true then(some ([]:List Int)) else(if count<0 then(none) else((sP.f (cY (List.length b:Int)) (cY count)).bind λv1=>if((decide (v1.1>0))||(decide (v1.2>9223372036854775807)))=true then(none) else(if((List.length b:Int)==0)=true then(some ([]:List Int)) else((if(aa v1.2)>8192 then(if(¬(List.length b:Int)=0) then(if((aa ((aa (Int.tdiv 8192 (List.length b:Int)))*(List.length b:Int)))==0)=true then(some (List.length b:Int)) else(some (aa ((aa (Int.tdiv 8192 (List.length b:Int)))*(List.length b:Int))))) else none) else(some (aa v1.2))).bind λx2=>if(0<=(aa v1.2)/\(aa v1.2)<=1099511627776) then(Fy (KA (aa v1.2)) (λx4=>if((aa v1.2)=(List.length x4:Int)) then((lH.l0 fuel v1 x2 (cg x4 0 (min (List.length b) (List.length x4)) b) (((min (List.length b) (List.length x4)):Nat):Int)).bind λx5=>some x5) else none)) else none))))
def lH.R (r:(List Int)):bm:=λu G=> ∃a0 n0 H0,aj (Fl.int .u8) 5 r a0 n0 H0/\u=(ll a0 r n0)/\G=[H0]
theorem lH.c (H:lH.f b count=some r) (ic:aU (Fl.int .u8) b j7 F) (gy:List.length b<=jU):
 QR 280 [(ll j7 b jU),(ii count)] [] [] F (lH.R r):=by
 unfold lH.f at H;refine aG Tryz.func280 J J (λW=>rc T 12 (cb J H (λH=>?_) (λH=>?_)))
 ·refine rc T 2 (aZ (cV (k:=(Fl.int .u8)) T ([]:List Int) J J J J J J J J J (λa1 H1 s1=>ro T 5 ?_)))
  cases H;exact p1 T J [1,0] ⟨a1,(List.length ([]:List Int)),H1,s1,J,J⟩ J
 refine rc T 9 (cd J H (λH=>?_) (λH=>?_))
 ·cases H
 refine rc T 9 (k [] J Nj H (sP.c ·) (λv1 H=>ro T 13 (go T [3,4,5] 29 [0,6] 32 J J J J J J J (ro T 2 (cb J H (λH=>?_) (λH=>?_))))))
 ·cases H
 refine rc T 17 (cb J H (λH=>?_) (λH=>?_))
 ·refine rc T 2 (aZ (cV (k:=(Fl.int .u8)) T ([]:List Int) J J J J J J J J J (λa2 H2 s2=>ro T 5 ?_)))
  cases H;exact p1 T J [1,0] ⟨a2,(List.length ([]:List Int)),H2,s2,J,J⟩ J
 refine rc T 8 (mq H [0,7] [0] (λz3 (x2:Int)=>(x2=z3,[(8,(ii x2))],[])) J J (λz3 Z6 _=>?_) ?_)
 ·refine rc T 6 (cd J Z6 (λZ6=>?_) (λZ6=>?_))
  ·refine rc T 4 ?_;obtain⟨c8,Z6⟩:=aA Z6;refine bz J (vh J J J c8) (ro T 12 (cb J Z6 (λZ6=>?_) (λZ6=>?_)))
   ·refine rc T 6 (am _ [0] (oi Z6) J J)
   refine rc T 2 (am _ [0] (oi Z6) J J)
  refine rc T 2 (am _ [0] (oi Z6) J J)
 rintro _ x2 rfl H;refine rc T 3 ?_;obtain⟨iI,H⟩:=aA H;refine aZ (Zg T J J J J ae2 J iI (λx4 a3 n3 H3 p3_ s3=>?_));replace H:=Yx H p3_;refine ro T 2 ?_;obtain⟨eH,H⟩:=aA H;refine bz J (abW T J J J J J J eH s3.bW) (ro T 7 ?_);have P3:0+(List.length x4)<=List.length x4:=(MG _);refine aZ (BN (k:=(Fl.int .u8)) (xs:=x4) (ys:=b) (lo:=0) (g:=1) T J J J J J J J J (aj.trim s3 (Nat.le_refl _) s3.bW) (rO ic 0) (.inl ⟨J,J⟩) P3 (λH4 s4=>kf [7,8,60] [0,0] [(9,(ll a3 (cg x4 0 (min (List.length b) (List.length x4)) b) (List.length x4)))] J J ⟨(by first |rfl |(simp only[ll,lZ P3];rfl)),trivial⟩ (ro T 3 ?_)))
 refine mq H [] [0] (λz6 (⟨x5,a5,n5,H5⟩:List Int×Option Addr×Nat×Hp)=>(x5=z6/\aj (Fl.int .u8) 5 x5 a5 n5 H5,[(9,(ll a5 x5 n5))],[H5])) J J (λz6 nq _=>?_) ?_
 ·refine rc T 1 (lq [7,8] [0] (λ(⟨zd,x9,aN,a7,n7,H7⟩:Nat×List Int×Int×Option Addr×Nat×Hp)=>(lH.l0 zd v1 x2 x9 aN=some z6/\aj (Fl.int .u8) 5 x9 a7 n7 H7,[(9,(ll a7 x9 n7)),(10,(ii aN))],[H7])) J J (fuel,(cg x4 0 (min (List.length b) (List.length x4)) b),(((min (List.length b) (List.length x4)):Nat):Int),a3,(List.length x4),H4) [0,0] ⟨nq,s4⟩ J J ?_);rintro zd ⟨x9,aN,a7,n7,H7⟩ ⟨cj,s7⟩;rw[lH.l0] at cj;refine rc T 8 (cd J cj (λcj=>?_) (λcj=>?_))
  ·refine rc T 11 (fz J (rz [7] mix (bM bL) (λhg pf=>ha T 7 [0,1,2] sz hg pf J ?_)));obtain⟨pX,cj⟩:=aA cj;refine av 3 sz hg pf J (kF T J J J J J J pX s7.bW) (ha T 4 [4,5] sz hg pf J ?_);obtain⟨jD,cj⟩:=aA cj;refine av 6 sz hg pf J (kF T J J J J J J jD s7.bW) (ao 7 ?_);have Dx:(Int.toNat aN)+(List.length (aB x9 aN (List.length x9:Int)))<=List.length x9:=(HX pX);refine BN (k:=(Fl.int .u8)) (xs:=x9) (ys:=(aB x9 0 (if x2<aN then x2 else aN))) (lo:=(Int.toNat aN)) (g:=1) T J J J J J J J J s7 (ng (oO s7 1) jD s7.bW) (.inr J) Dx (λH8 s8=>?_)
   have IJ:(0<=aN/\aN<=(List.length x9:Int)/\(List.length x9:Int)<=(List.length (cg x9 (Int.toNat aN) (min (List.length (aB x9 0 (if x2<aN then x2 else aN))) (List.length (aB x9 aN (List.length x9:Int)))) (aB x9 0 (if x2<aN then x2 else aN))):Int)):=by simp only[lZ Dx];exact pX
   have Ye:(0<=(0:Int)/\(0:Int)<=(if x2<aN then x2 else aN)/\(if x2<aN then x2 else aN)<=(List.length (cg x9 (Int.toNat aN) (min (List.length (aB x9 0 (if x2<aN then x2 else aN))) (List.length (aB x9 aN (List.length x9:Int)))) (aB x9 0 (if x2<aN then x2 else aN))):Int)):=by simp only[lZ Dx];exact jD
   refine kf [7,8,10,11,67,69,72,74] [0,0] [(9,(ll a7 (cg x9 (Int.toNat aN) (min (List.length (aB x9 0 (if x2<aN then x2 else aN))) (List.length (aB x9 aN (List.length x9:Int)))) (aB x9 0 (if x2<aN then x2 else aN))) n7)),(68,(ll a7 (cg x9 (Int.toNat aN) (min (List.length (aB x9 0 (if x2<aN then x2 else aN))) (List.length (aB x9 aN (List.length x9:Int)))) (aB x9 0 (if x2<aN then x2 else aN))) n7)),(70,(ll (gi a7 n7 (Int.toNat aN) 1) (aB (cg x9 (Int.toNat aN) (min (List.length (aB x9 0 (if x2<aN then x2 else aN))) (List.length (aB x9 aN (List.length x9:Int)))) (aB x9 0 (if x2<aN then x2 else aN))) aN (List.length x9:Int)) (n7-Int.toNat aN))),(71,(ll a7 (cg x9 (Int.toNat aN) (min (List.length (aB x9 0 (if x2<aN then x2 else aN))) (List.length (aB x9 aN (List.length x9:Int)))) (aB x9 0 (if x2<aN then x2 else aN))) n7)),(73,(ll (gi a7 n7 (Int.toNat 0) 1) (aB (cg x9 (Int.toNat aN) (min (List.length (aB x9 0 (if x2<aN then x2 else aN))) (List.length (aB x9 aN (List.length x9:Int)))) (aB x9 0 (if x2<aN then x2 else aN))) 0 (if x2<aN then x2 else aN)) (n7-Int.toNat 0)))] J J ⟨(by first |rfl |(simp only[ll,lZ Dx];rfl)),(by first |rfl |(simp only[ll,lZ Dx];rfl)),(by simp only[ll];rw[iP IJ,<-iP pX];rfl),(by first |rfl |(simp only[ll,lZ Dx];rfl)),(by simp only[ll];rw[iP Ye,<-iP jD];rfl),trivial⟩ (an sl (hb T 8 sl hg pf J (hb T 9 sl hg pf J (ae (rx T 2 ?_)))))
   exact ar (_,_,_,_,_) [0,0] ⟨cj,s8⟩ J J
  refine rc T 5 (am (_,_,_,_) [0,0] ⟨oi cj,s7⟩ J J)
 rintro _ ⟨x5,a5,n5,H5⟩ ⟨rfl,s5⟩ H;refine rc T 7 ?_
 cases H;exact p1 T J [1,0] ⟨a5,n5,H5,s5,J,J⟩ J
def DK.f (a:(List Int)) (b:(List Int)):Option Bool:=some (HW a b)
theorem DK.c (H:DK.f a b=some r) (DY:aU (Fl.int .u8) a Fs F) (Ma:List.length a<=Hb) (ic:aU (Fl.int .u8) b j7 F) (gy:List.length b<=jU):
 QU 254 [(ll Fs a Hb),(ll j7 b jU)] [] F (bb r):=by
 unfold DK.f at H;refine aG Tryz.func254 J J (λW=>rc T 8 (bz J (R8 T J J J J J (rO DY 0)) (ro T 1 (bz J (R8 T J J J J J (rO ic 0)) (bz J (abV J J J) (ro T 4 ?_))))))
 cases H;exact p0 T J [0] J
end
noncomputable section
def cmp_isNaN_int.f (x:Int):Option Bool:=some (x !=x)
theorem cmp_isNaN_int.c (H:cmp_isNaN_int.f x=some r):
 QU 265 [(ii x)] [] F (bb r):=by
 unfold cmp_isNaN_int.f at H;refine aG Tryz.func265 J J (λW=>rc T 14 ?_)
 cases H;exact p0 T J [0] J
def sC.f (x:Int) (y:Int):Option Int:=(cmp_isNaN_int.f x).bind λv1=>(cmp_isNaN_int.f y).bind λv2=>if v1=true then(if v2=true then(some 0) else(some (-1))) else(if v2=true then(some 1) else(if x<y then(some (-1)) else(if x>y then(some 1) else(some 0))))
theorem sC.c (H:sC.f x y=some r):
 QU 237 [(ii x),(ii y)] [] F (ii r):=by
 unfold sC.f at H;refine aG Tryz.func237 J J (λW=>rc T 8 (k [] J JG H (cmp_isNaN_int.c ·) (λv1 H=>ro T 6 (k [] J JG H (cmp_isNaN_int.c ·) (λv2 H=>ro T 9 (cb J H (λH=>?_) (λH=>?_)))))))
 ·refine rc T 6 (cb J H (λH=>?_) (λH=>?_))
  ·refine rc T 8 ?_
   cases H;exact p0 T J [0] J
  refine rc T 9 ?_
  cases H;exact p0 T J [0] J
 refine rc T 8 (cb J H (λH=>?_) (λH=>?_))
 ·refine rc T 7 ?_
  cases H;exact p0 T J [0] J
 refine rc T 10 (cd J H (λH=>?_) (λH=>?_))
 ·refine rc T 7 ?_
  cases H;exact p0 T J [0] J
 refine rc T 10 (cd J H (λH=>?_) (λH=>?_))
 ·refine rc T 7 ?_
  cases H;exact p0 T J [0] J
 refine rc T 8 ?_
 cases H;exact p0 T J [0] J
def mS.l0:Nat->(List Int)->Int->Option Int
 |0,_,_=>none
 |k3+1,tI,x2=>if x2<(List.length tI:Int) then(if(0<=x2/\x2<(List.length tI:Int)) then(if((rd tI x2)!=0)=true then(some (rd tI x2)) else(mS.l0 k3 tI (aa (x2+1)))) else none) else(some 0)
def mS.f (tI:(List Int)):Option Int:=mS.l0 fuel tI 0
theorem mS.c (H:mS.f tI=some r) (SD:aU (Fl.int .i64) tI Yl F) (ajI:List.length tI<=agf):
 QU 236 [(ll Yl tI agf)] [] F (ii r):=by
 unfold mS.f at H;refine aG Tryz.func236 J J (λW=>rc T 19 (lq [3,6,7] [0] (λ(⟨k3,x2⟩:Nat×Int)=>(mS.l0 k3 tI x2=some r,[(8,(ii x2))],[])) J J (fuel,0) [0] H J J ?_));rintro k3 x2 Z1;replace Z1:mS.l0 (k3+1) tI x2=some r:=Z1;rw[mS.l0] at Z1;refine rc T 6 (cd J Z1 (λZ1=>?_) (λZ1=>?_))
 ·refine rc T 6 ?_;obtain⟨c3,Z1⟩:=aA Z1;obtain⟨q1,o1,e1⟩:=SD.addr c3.1 c3.2;refine ix T J e1 c3 (le T 0 (rO SD 0) e1 c3 J J (ro T 10 (cb J Z1 (λZ1=>?_) (λZ1=>?_))))
  ·refine rc T 12 ?_
   cases Z1;exact p0 T J [0] J
  refine rc T 8 (ar _ [0] Z1 J J)
 refine rc T 12 ?_
 cases Z1;exact p0 T J [0] J
def cmp_Less_int.f (x:Int) (y:Int):Option Bool:=((cmp_isNaN_int.f x).bind λv3=>if v3=true then((cmp_isNaN_int.f y).bind λv4=>some ((!v4)||(decide (x<y)))) else(some (decide (x<y)))).bind λx1=>some x1
theorem cmp_Less_int.c (H:cmp_Less_int.f x y=some r):
 QU 300 [(ii x),(ii y)] [] F (bb r):=by
 unfold cmp_Less_int.f at H;refine aG Tryz.func300 J J (λW=>rc T 5 (mq H [] [0] (λz2 (x1:Bool)=>(x1=z2,[(4,(bb x1))],[])) J J (λz2 Z1 _=>?_) ?_))
 ·refine rc T 2 (k [] J JG Z1 (cmp_isNaN_int.c ·) (λv3 Z1=>ro T 1 (ab 7 J Z1 (λZ1=>?_) (λZ1=>?_))))
  ·refine ro T 1 (k [] J JG Z1 (cmp_isNaN_int.c ·) (λv4 Z1=>ro T 3 (go T [8,9,10,11] 12 [] 16 J J J J J J J (ro T 3 (am _ [0] (oi Z1) J J)))))
  refine ro T 12 (am _ [0] (oi Z1) J J)
 rintro _ x1 rfl H;refine rc T 1 ?_
 cases H;exact p0 T J [0] J
end
end Go.Proofs.YthodkonhneebbaaGreatDoor
