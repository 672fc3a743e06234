/- The logic of this claim: a sort by a function that only looks, of a slice that is owned. -/
import Derived.Shelf.SlSortCmp.WholeK
import Derived.Test.YthodkonhneebbaaGreatDoorProg
import Derived.KernelRfl
import Derived.Test.YthodkonhneebbaaGreatDoorKDHz
namespace Go.Hx
open Go.Sort Go.Shelf Go.RowKit Go.Lib Go.Proofs
set_option linter.unusedVariables false
set_option linter.unusedSimpArgs false
def pX {α:Type} [Inhabited α] (cf:α->α->Int) (l:List α):List α:=(Sort.pdq (ltOf cf) l.toArray 0 l.length (Lib.bitLen l.length) true true).toList
theorem WL {α:Type} [Inhabited α] {cf:α->α->Int} (h:SWO (ltOf cf)) (l:List α):PermIn 0 l.length l.toArray (pX cf l).toArray/\SortedIn (ltOf cf) 0 l.length (pX cf l).toArray:=by
 have:=pdq_sorts (ltOf cf) h l.toArray 0 l.length (Lib.bitLen l.length) true true (Nat.zero_le _) bd (Or.inl J);simpa[pX] using this
theorem HP {α:Type} [Inhabited α] {cf:α->α->Int} (h:SWO (ltOf cf)) (l:List α):(pX cf l).length=l.length:=by
 have:=(WL h l).1.1;simpa using this
theorem grown_of {P:Program} {f:FuncId} {al:List Value} {v:Value} (c: ∀F,gR P f al [F] (λ_:Unit=>v) (λ_=>[F])) (w:World):
 Calls P f al.toArray w λe w'=>e= .returned v/\ ∃q Vg,w'=grow (w.drewN q) Vg:=by
 refine(c (tg w) w w (by simpa using Vm w)).mono λe w' ⟨_,he,ow⟩=>⟨he,w'.drawn-w.drawn,w'.heap.extract w.heap.size w'.heap.size,?_⟩
 have ow:bl w w' (tg w):=by simpa using ow
 have hb:=Vn ow;have jS:w.heap.size<=w'.heap.size:=by
  rcases Nat.eq_zero_or_pos w.heap.size with h0 |h0
  ·omega
  ·have hl:w.heap.size-1<w.heap.size:=U;have:=ow.lt (oD (Array.getElem?_eq_getElem hl));omega
 have hh:w'.heap=w.heap++w'.heap.extract w.heap.size w'.heap.size:=by
  apply Array.ext_getElem?;intro i;rw[Array.getElem?_append]
  by_cases hi:i<w.heap.size
  ·rw[if_pos hi,Array.getElem?_eq_getElem hi];exact ow.lookup (oD (Array.getElem?_eq_getElem hi))
  ·rw[if_neg hi,Array.getElem?_extract]
   by_cases h2:i<w'.heap.size
   ·rw[if_pos U];congr 1;omega
   ·rw[if_neg U,Array.getElem?_eq_none U]
 obtain⟨⟨e1,e2,e3,e4⟩,_⟩:=ow
 cases w with
 |mk heap tape drawn os output=>
  cases w' with
  |mk ai6 aje ai0 Vg ajd=>
   simp only[grow,World.drewN] at*;subst e1;subst e2;subst e3
   congr 1
   omega
theorem Wl {α:Type} [Inhabited α] (k:Fl α) (d:Array α) (j:Nat) (hj:j<d.size*k.size):(row k d.toList)[j]? =some ((flatK k.enc k.size d)[j]!):=by
 have hp:=k.pos;have h1:j/k.size<d.size:=Nat.div_lt_of_lt_mul (by rw[Nat.mul_comm];exact hj)
 have h2:j%k.size<k.size:=Nat.mod_lt _ hp;have:=Da (k:=k) d.toList (j/k.size) (j%k.size) (by simpa using h1) h2
 rw[show j/k.size*k.size+j%k.size=j by rw[Nat.mul_comm];exact Nat.div_add_mod _ _] at this
 rw[this,get_flatK _ _ _ _ hj];have hl:j%k.size<(k.enc d.toList[j/k.size]).length:=by rw[k.len];exact h2
 rw[List.getElem?_eq_getElem hl,getElem!_pos d _ h1];rw[getElem!_pos _ _ (by rw[k.len];exact h2)]
 simp
theorem af9 {α:Type} [Inhabited α] (k:Fl α) (pre post:List Value) (xs:List α) (d:Array α) (hd:d.size=xs.length):
 putCells id pre.length (flatK k.enc k.size d) (pre++(row k xs++post)).toArray=(pre++(row k d.toList++post)).toArray:=by
 apply Array.ext_getElem?;intro i;unfold putCells;rw[Array.getElem?_mapIdx];simp only[List.getElem?_toArray,size_flatK];have l1:=lG (k:=k) xs;have l2:=lG (k:=k) d.toList;have l3:d.toList.length=xs.length:=by simpa using hd
 by_cases h1:i<pre.length
 ·rw[List.getElem?_append_left h1,List.getElem?_append_left h1,List.getElem?_eq_getElem h1];simp;omega
 ·have eL:(pre++(row k xs++post))[i]? =(row k xs++post)[i-pre.length]? :=List.getElem?_append_right U;have eR:(pre++(row k d.toList++post))[i]? =(row k d.toList++post)[i-pre.length]? :=List.getElem?_append_right U;rw[eL,eR]
  by_cases h2:i-pre.length<d.size*k.size
  ·have g1:i-pre.length<(row k xs).length:=by rw[l1,<-hd];exact h2
   have g2:i-pre.length<(row k d.toList).length:=by rw[l2,l3,<-hd];exact h2
   have Mm:(row k xs++post)[i-pre.length]? =(row k xs)[i-pre.length]? :=List.getElem?_append_left g1;have Mn:(row k d.toList++post)[i-pre.length]? =(row k d.toList)[i-pre.length]? :=List.getElem?_append_left g2;rw[Mm,Mn,Wl k d _ h2,List.getElem?_eq_getElem g1];have:pre.length<=i/\i<pre.length+d.size*k.size:=U;simp[this]
  ·have g1:(row k xs).length<=i-pre.length:=by rw[l1,<-hd];omega
   have g2:(row k d.toList).length<=i-pre.length:=by rw[l2,l3,<-hd];omega
   have Mm:(row k xs++post)[i-pre.length]? =post[i-pre.length-(row k xs).length]? :=List.getElem?_append_right g1;have Mn:(row k d.toList++post)[i-pre.length]? =post[i-pre.length-(row k d.toList).length]? :=List.getElem?_append_right g2;rw[Mm,Mn,l1,l2,l3]
   cases post[i-pre.length-xs.length*k.size]? with
   |none=>rfl
   |some v=>
    have: ¬(pre.length<=i/\i<pre.length+d.size*k.size):=U;simp[this]
theorem af0 {α:Type} [Inhabited α] {cf:α->α->Int} (h:SWO (ltOf cf)) (d:Array α) (m:Nat):(Sort.pdq (ltOf cf) d 0 d.size m true true).size=d.size:=
 (pdq_sorts (ltOf cf) h d 0 d.size m true true (Nat.zero_le _) (Nat.le_refl _) (Or.inl J)).1.1
set_option maxHeartbeats 1000000 in
theorem ahI {P:Program} {ρ:Ren} {α:Type} [Inhabited α] (L:SlLaysF0.n6 P ρ) (k:Fl α) (aE: ∀w,(isAgg (ρ.t 24)).run P w= .ok true w) (zE: ∀w,(Go.sizeOf (ρ.t 24)).run P w= .ok k.size w)
 (cf:α->α->Int) (hO:SWO (ltOf cf)) (g:Nat) (eg: ∀args w,(callFunc g args).run P w= .ok (.enter g args) w) (hc: ∀x y F,gR P g [.agg (k.enc x).toArray,.agg (k.enc y).toArray] [F] (λ_:Unit=> .int .i64 (cf x y)) (λ_=>[F]))
 (E:TypeId) (h0: ∀F,gR P (ρ.f 6) [.slice none 0 0,.func (.func g) #[] #[]] [F] (λ_:Unit=> .tuple #[]) (λ_=>[F])) {a:Option Addr} {cap:Nat} {H:Hp} (s:List α) (F:Hp) (hl:s.length<4611686018427387904) (so:ak k E s a cap H):
 gR P (ρ.f 6) [.slice a s.length cap,.func (.func g) #[] #[]] [H,F] (λq:{q:Value×List Hp // ∃H0,ak k E (pX cf s) a cap H0/\List.length (pX cf s)=s.length/\q.1= .tuple #[]/\q.2=[H0]}=>q.1.1) (λq=>(q.1.2++[])++[F]):=by
 rcases so with⟨rfl,rfl,rfl,rfl⟩ |⟨b,pre,post,rfl,rfl,h1,h2⟩
 ·intro W w ow;refine(h0 F W w (by simpa using ow)).mono λe w' ⟨_,he,cD⟩=>?_
  have e0:pX cf ([]:List α)=[]:=List.length_eq_zero_iff.1 (HP hO []);refine⟨⟨(.tuple #[],[[]]),[],by rw[e0];exact .inl ⟨J,J,J,J⟩,by rw[e0],J,J⟩,he,by simpa using cD⟩
 ·intro W w ow;have yg:bl W w ((b,Obj.cells (pre++(row k s++post)).toArray E (0,0))::F):=by simpa using ow
  have hb:=yg.lookup (b:=b) (List.mem_cons_self ..);have aS:=yg.lt (b:=b) (List.mem_cons_self ..);have hH:HoldsK k.enc k.size w b pre.length s.toArray:=by
   intro j hj;rw[size_flatK] at hj;have hr:=Wl k s.toArray j hj;simp only[List.size_toArray] at hj;have lB:j<(row k s).length:=by rw[lG];exact hj
   constructor
   ·simp only[World.cell?,hb,Option.isSome_none,Bool.false_eq_true,if_false];rw[List.getElem?_toArray,List.getElem?_append_right U,Nat.add_sub_cancel_left,List.getElem?_append_left lB];simpa using hr
   ·simp[World.frozen?,hb]
  have key:=AnyQ.slices_SortFunc_eq L k.size aE zE k.enc k.len k.plain cf hO g #[] b pre.length cap s.toArray w eg (λm os dk hs x y=>by
   have:=grown_of (hc x y) (sortWorldK k.enc k.size w b pre.length m dk os);simpa using this) hH aS (by simpa using hl)
  have pI:Calls P (ρ.f 6) [Value.slice (some ⟨b,pre.length,none⟩) s.length cap,.func (.func g) #[] #[]].toArray w (λe w'=>e= .returned (.tuple #[])/\ ∃n os,w'=sortWorldK k.enc k.size w b pre.length n (Sort.pdq (ltOf cf) s.toArray 0 s.length (Lib.bitLen s.length) true true) os):=by simpa using key
  refine pI.mono λe w' ⟨he,n,os,hw⟩=>?_
  have jS:(Sort.pdq (ltOf cf) s.toArray 0 s.length (Lib.bitLen s.length) true true).size=s.length:=by simpa using af0 hO s.toArray (Lib.bitLen s.length)
  refine⟨⟨(.tuple #[],[[(b,Obj.cells (pre++(row k (pX cf s)++post)).toArray E (0,0))]]),_,.inr ⟨b,pre,post,J,J,by rw[HP hO];exact h1,by rw[HP hO];exact h2⟩,HP hO s,J,J⟩,he,?_⟩
  show bl W w' _
  simp only[List.append_nil,List.flatten_append,List.flatten_cons,List.flatten_nil,List.cons_append,List.nil_append];have hp:=af9 k pre post s (Sort.pdq (ltOf cf) s.toArray 0 s.length (Lib.bitLen s.length) true true) jS;have adY:w'.heap=w.heap.setIfInBounds b (Obj.cells (pre++(row k (pX cf s)++post)).toArray E (0,0))++os:=by
   rw[hw];simp only[sortWorldK,grow,putRowK,putRow,mapBlock,Sort.ahead]
   congr 1
   apply Array.ext_getElem?;intro i;rw[Array.getElem?_modify]
   by_cases hi:b=i
   ·subst hi;rw[if_pos J,hb];simp only[Option.map_some,onCells];rw[Array.getElem?_setIfInBounds_self_of_lt aS,hp]
    rfl
   ·rw[if_neg hi,Array.getElem?_setIfInBounds_ne hi]
  have Ej:w'.os=w.os/\w'.tape=w.tape/\w'.output=w.output/\w.drawn<=w'.drawn:=by
   rw[hw];exact⟨J,J,J,by simp[sortWorldK,grow,putRowK,putRow,mapBlock,Sort.ahead]⟩
  refine⟨⟨Ej.1.trans yg.1.1,Ej.2.1.trans yg.1.2.1,Ej.2.2.1.trans yg.1.2.2.1,Nat.le_trans yg.1.2.2.2 Ej.2.2.2⟩,by simpa using yg.2.1,?_⟩
  intro c xD;rw[adY];rcases List.mem_cons.1 xD with rfl |xD
  ·rw[Array.getElem?_append_left (by simpa using aS),Array.getElem?_setIfInBounds_self_of_lt aS]
  ·have eH:=yg.lt (b:=c.1) (o:=c.2) (List.mem_cons_of_mem _ xD);have bI:b≠c.1:=by
    intro he;have hn:=yg.2.1;simp only[List.map_cons,List.nodup_cons] at hn;exact hn.1 (List.mem_map.2 ⟨c,xD,he.symm⟩)
   rw[Array.getElem?_append_left (by simpa using eH),Array.getElem?_setIfInBounds_ne bI]
   exact yg.2.2 c (List.mem_cons_of_mem _ xD)
end Go.Hx
namespace Go.Proofs
open Go.Shelf
def Tryz.ahG:Go.Shelf.Ren:=⟨λ|6=>208 |15=>235 |14=>234 |28=>263 |29=>264 |20=>255 |21=>256 |22=>257 |23=>258 |24=>259 |25=>260 |26=>261 |27=>262 |46=>283 |47=>284 |48=>285 |49=>286 |50=>287 |57=>298 |n=>n,λ|22=>227 |24=>285 |25=>317 |3=>3 |39=>136 |0=>0 |53=>65 |55=>44 |4=>4 |46=>377 |45=>376 |50=>85 |5=>5 |9=>9 |66=>398 |70=>401 |76=>407 |77=>113 |n=>n,λ|n=>n⟩
theorem Tryz.ahF:Go.Proofs.SlLaysF0.n6 Tryz.prog Tryz.ahG:={
 mixed:=aA
 f6:=⟨Tryz.f208.name,by decide,Tryz.func208.trans (congrArg some aA)⟩
 f14:=⟨Tryz.f234.name,by decide,Tryz.func234.trans (congrArg some aA)⟩
 f15:=Tryz.func235.trans (congrArg some aA)
 f20:=⟨Tryz.f255.name,by decide,Tryz.func255.trans (congrArg some aA)⟩
 f21:=⟨Tryz.f256.name,by decide,Tryz.func256.trans (congrArg some aA)⟩
 f22:=⟨Tryz.f257.name,by decide,Tryz.func257.trans (congrArg some aA)⟩
 f23:=⟨Tryz.f258.name,by decide,Tryz.func258.trans (congrArg some aA)⟩
 f24:=⟨Tryz.f259.name,by decide,Tryz.func259.trans (congrArg some aA)⟩
 f25:=⟨Tryz.f260.name,by decide,Tryz.func260.trans (congrArg some aA)⟩
 f26:=⟨Tryz.f261.name,by decide,Tryz.func261.trans (congrArg some aA)⟩
 f27:=⟨Tryz.f262.name,by decide,Tryz.func262.trans (congrArg some aA)⟩
 f28:=Tryz.func263.trans (congrArg some aA)
 f29:=Tryz.func264.trans (congrArg some aA)
 f46:=⟨Tryz.f283.name,by decide,Tryz.func283.trans (congrArg some aA)⟩
 f47:=Tryz.func284.trans (congrArg some aA)
 f48:=Tryz.func285.trans (congrArg some aA)
 f49:=⟨Tryz.f286.name,by decide,Tryz.func286.trans (congrArg some aA)⟩
 f50:=⟨Tryz.f287.name,by decide,Tryz.func287.trans (congrArg some aA)⟩
 f57:=⟨Tryz.f298.name,by decide,Tryz.func298.trans (congrArg some aA)⟩
 t0:=Tryz.underlying0
 a0:=Tryz.isAgg0
 z0:=Tryz.sizeOf0
 v0:=Tryz.zeroValue0
 t3:=Tryz.underlying3
 a3:=Tryz.isAgg3
 z3:=Tryz.sizeOf3
 v3:=Tryz.zeroValue3
 t4:=Tryz.underlying4
 a4:=Tryz.isAgg4
 z4:=Tryz.sizeOf4
 v4:=Tryz.zeroValue4
 t5:=Tryz.underlying5
 a5:=Tryz.isAgg5
 z5:=Tryz.sizeOf5
 v5:=Tryz.zeroValue5
 t9:=Tryz.underlying9
 a9:=Tryz.isAgg9
 z9:=Tryz.sizeOf9
 v9:=Tryz.zeroValue9
 t22:=Tryz.underlying227
 a22:=Tryz.isAgg227
 z22:=Tryz.sizeOf227
 v22:=Tryz.zeroValue227
 t25:=Tryz.underlying317
 a25:=Tryz.isAgg317
 z25:=Tryz.sizeOf317
 v25:=Tryz.zeroValue317
 t39:=Tryz.underlying136
 a39:=Tryz.isAgg136
 z39:=Tryz.sizeOf136
 v39:=Tryz.zeroValue136
 t45:=Tryz.underlying376
 a45:=Tryz.isAgg376
 z45:=Tryz.sizeOf376
 v45:=Tryz.zeroValue376
 t46:=Tryz.underlying377
 a46:=Tryz.isAgg377
 z46:=Tryz.sizeOf377
 v46:=Tryz.zeroValue377
 t50:=Tryz.underlying85
 a50:=Tryz.isAgg85
 z50:=Tryz.sizeOf85
 v50:=Tryz.zeroValue85
 t53:=Tryz.underlying65
 a53:=Tryz.isAgg65
 z53:=Tryz.sizeOf65
 v53:=Tryz.zeroValue65
 t55:=Tryz.underlying44
 a55:=Tryz.isAgg44
 z55:=Tryz.sizeOf44
 v55:=Tryz.zeroValue44
 t66:=Tryz.underlying398
 a66:=Tryz.isAgg398
 z66:=Tryz.sizeOf398
 v66:=Tryz.zeroValue398
 t70:=Tryz.underlying401
 a70:=Tryz.isAgg401
 z70:=Tryz.sizeOf401
 v70:=Tryz.zeroValue401
 t76:=Tryz.underlying407
 a76:=Tryz.isAgg407
 z76:=Tryz.sizeOf407
 v76:=Tryz.zeroValue407
 t77:=Tryz.underlying113
 a77:=Tryz.isAgg113
 z77:=Tryz.sizeOf113
 v77:=Tryz.zeroValue113}
end Go.Proofs
