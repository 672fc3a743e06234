/- Part of the proof. No condition. -/
import Derived.Test.YthodkonhneebbaaGreatDoorRows
import Derived.ChangeSame
import Derived.ChangeVars
import Derived.JoinedOf
import Derived.RowKit
import Derived.RowKitTokens
import Derived.LaidLaws
import Derived.LaidHandle
import Derived.Handed
import Derived.Stop.LaidErr
import Derived.Test.YthodkonhneebbaaGreatDoorKDErrs
namespace Go.Proofs.YthodkonhneebbaaGreatDoor
open Go.ChangeShapes Go.WideShapes Go.RowKit Go.Hx
set_option maxRecDepth 100000
set_option linter.unusedVariables false
theorem ahr {P:Program} {W:World} {nm:String} {ti tp te ts:TypeId} {ms:Array (String×TypeId)} {f:Field}
 (hi:P.underlying ti=some (.interface ms)) (xM: ∀u,P.typeName? 3 u=some nm->u=tp)
 (hp:P.underlying tp=some (.pointer te)) (he:P.underlying te=some (.struct #[f])) (hft:f.type=ts) (Nx:f.offset=0) (hs:P.underlying ts=some .string) (hc:P.cellsOf te=1) (jR:P.cellsOf ts=1):
 ∀(l:List (String×DataW Unit)) (ps:List MemPlace),DataW.LaidVars P W l ps->ps.Nodup->
  (∀b off,MemPlace.cell b off∈ps->(∃c t,W.heap[b]? =some (.cells c t (0,0)))/\ ∀u v,W.cell? ⟨b,off,none⟩=some (.iface u v)->Value.okWide P W .any 0 u v)->
  (∀x∈l,∃text,x.2= .iface nm (.ptr (.agg [.lit (.string text)])))->(∀x∈l,∀g,P.globalNamed x.1=some g->(P.globals[g]?).map (·.type)=some ti)->
  ∃qs:List Addr,qs.length=l.length/\qs.Nodup/\(∀a∈qs,MemPlace.cell a.block a.off∈ps)/\
   ∀(i:Nat) (x:String×DataW Unit) (a:Addr),l[i]? =some x->qs[i]? =some a->W.var? P x.1=some #[.iface tp (.pointer (some a))]/\ ∃c t,W.heap[a.block]? =some (.cells c t (0,0)):=by
 intro l
 induction l with
 |nil=>intro ps _ _ _ _ _;exact⟨[],J,List.nodup_nil,by simp,λi x a h=>by simp at h⟩
 |cons x l ih=>
  obtain⟨n0,d0⟩:=x;intro ps hl tD GC zv Cs;obtain⟨g0,t0,cs0,f0,p0,q0,TA,kq,zw,hd0,Ej,e0⟩:=hl;subst e0;have et:t0=ti:=Option.some.inj (kq.symm.trans (Cs (n0,d0) (List.mem_cons_self ..) g0 TA));subst et;obtain⟨text,hd⟩:=zv (n0,d0) (List.mem_cons_self ..);have hd:d0= .iface nm (.ptr (.agg [.lit (.string text)])):=hd;subst hd;obtain⟨l0⟩:=cs0;have ok0: ∀u v,l0=[.iface u v]->Value.okWide P W .any 0 u v:=λu v e=>by
   subst e;exact(GC g0 0 (by simp[MemPlace.row])).2 u v (by simpa using World.var?_cell TA zw 0)
  obtain⟨a0,s0,rfl,Nq,_,_,rfl⟩:=errorString_of_trod hi xM hp he hft Nx hs hc jR hd0 ok0;have J0:=List.nodup_append.1 tD;obtain⟨qs,h1,h2,h3,h4⟩:=ih q0 Ej J0.2.1 (λb off hm=>GC b off (List.mem_append_right _ hm)) (λx hx=>zv x (List.mem_cons_of_mem _ hx)) (λx hx=>Cs x (List.mem_cons_of_mem _ hx));have bY:MemPlace.cell a0.block a0.off∈MemPlace.row ⟨g0,0,none⟩ (Array.size ⟨[Value.iface tp (Value.pointer (some a0))]⟩)++MemPlace.row a0 1:=List.mem_append_right _ (by simp[MemPlace.row])
  refine⟨a0::qs,by simp[h1],List.nodup_cons.2 ⟨λhm=>?_,h2⟩,λa ha=>?_,λi x a hx ha=>?_⟩
  ·exact J0.2.2 _ bY _ (h3 a0 hm) J
  ·rcases List.mem_cons.1 ha with rfl |ha
   ·exact List.mem_append_left _ bY
   ·exact List.mem_append_right _ (h3 a ha)
  ·cases i with
   |zero=>
    simp at hx ha;subst hx;subst ha;exact⟨zw,(GC a0.block a0.off (List.mem_append_left _ bY)).1⟩
   |succ i=>exact h4 i x a (by simpa using hx) (by simpa using ha)
def CC : List (String × DataW Unit) := [("errors.errorType", Rows.laid_errors_errorType), ("herdsman/pack.errEnd", Rows.laid_herdsman_pack_errEnd), ("herdsman/pack.errForm", Rows.laid_herdsman_pack_errForm), ("herdsman/nav.errNoMap", Rows.laid_herdsman_nav_errNoMap), ("herdsman/nav.errBounds", Rows.laid_herdsman_nav_errBounds), ("herdsman/nav.errField", Rows.laid_herdsman_nav_errField), ("herdsman/svc.errScript", Rows.laid_herdsman_svc_errScript)]
theorem aeA : Tryz.prog.globalNamed "errors.errorType" = some 1 := by kernel_rfl
theorem Ut : Tryz.prog.globalNamed "herdsman/pack.errEnd" = some 6 := by kernel_rfl
theorem aeG:(Tryz.prog.globals[6]?).map (·.type)=some 106:=aA
theorem Uu : Tryz.prog.globalNamed "herdsman/pack.errForm" = some 5 := by kernel_rfl
theorem aeH:(Tryz.prog.globals[5]?).map (·.type)=some 106:=aA
theorem Uv : Tryz.prog.globalNamed "herdsman/nav.errNoMap" = some 2 := by kernel_rfl
theorem aeI:(Tryz.prog.globals[2]?).map (·.type)=some 106:=aA
theorem Uw : Tryz.prog.globalNamed "herdsman/nav.errBounds" = some 3 := by kernel_rfl
theorem aeJ:(Tryz.prog.globals[3]?).map (·.type)=some 106:=aA
theorem Ux : Tryz.prog.globalNamed "herdsman/nav.errField" = some 4 := by kernel_rfl
theorem aeK:(Tryz.prog.globals[4]?).map (·.type)=some 106:=aA
theorem Uy : Tryz.prog.globalNamed "herdsman/svc.errScript" = some 0 := by kernel_rfl
theorem aeL:(Tryz.prog.globals[0]?).map (·.type)=some 106:=aA
theorem aeD : (Tryz.prog.cutTypes.find? (·.1 == "internal/reflectlite.rtype")).map (·.2) = some 262 := by kernel_rfl
theorem aeC:((List.range 446).filter λt=>Tryz.prog.rowNamed t [101,114,114,111,114])=[106]:=aA
theorem aeF:Tryz.prog.types.size=446:=aA
theorem aeB:typeHandle Tryz.prog 106= .pointer (some ⟨8,106,none⟩):=aA
theorem aex:Tryz.prog.cellsOf 434=1:=aA
theorem aey:Tryz.prog.cellsOf 9=1:=aA
theorem aeN : Tryz.prog.underlying 106 = some (.interface #[("Error", 415)]) := by kernel_rfl
theorem aeO:Tryz.prog.underlying 414=some (.pointer 434):=aA
theorem aeP : Tryz.prog.underlying 434 = some (.struct #[{ name := "s", type := 9, offset := 0, byteOffset := 0, embedded := false, tag := "", pkgPath := "errors" }]) := by kernel_rfl
theorem aeQ:Tryz.prog.underlying 9=some .string:=aA
theorem Uz : "*" ++ "errors.errorString" = "*errors.errorString" := by decide
theorem aez (u : TypeId) (h : Tryz.prog.typeName? 3 u = some "*errors.errorString") : u = 414 :=
 typeName_ptr_named (nm := "errors.errorString") (by rw [Uz]; kernel_rfl) aA (by decide) u (by rw [Uz]; exact h)
theorem Dw {P:Program} {W:World} {n:String} {g:Nat} {cs:Array Value} (hg:P.globalNamed n=some g) (h:W.var? P n=some cs): ∃T fr,W.heap[g]? =some (.cells cs T fr):=by
 simp only[World.var?,hg,Option.bind_some] at h;split at h
 ·rename_i c T fr hh;exact⟨T,fr,by rw[hh,Option.some.inj h]⟩
 ·cases h
theorem UC {W : World} (h : laidMetH Tryz.prog CC W) : laidMet Tryz.prog [("herdsman/pack.errEnd", Rows.laid_herdsman_pack_errEnd), ("herdsman/pack.errForm", Rows.laid_herdsman_pack_errForm), ("herdsman/nav.errNoMap", Rows.laid_herdsman_nav_errNoMap), ("herdsman/nav.errBounds", Rows.laid_herdsman_nav_errBounds), ("herdsman/nav.errField", Rows.laid_herdsman_nav_errField), ("herdsman/svc.errScript", Rows.laid_herdsman_svc_errScript)] W ∧ handlesMet Tryz.prog [("errors.errorType", Rows.laid_errors_errorType)] W := h
theorem abC {W:World} (h:laidMetH Tryz.prog CC W): ∃T fr,W.heap[1]? =some (.cells #[.iface 262 (.agg #[.pointer (some ⟨8,106,none⟩)])] T fr):=by
 obtain⟨name,u,ty,e1,e2,e3,e4,e5⟩:=(UC h).2 _ (List.mem_singleton.2 J);have en:name=[101,114,114,111,114]:=(Option.some.inj e1).symm;subst en;obtain rfl:=Option.some.inj (aeD.symm.trans e2);have hm:ty∈(List.range 446).filter λt=>Tryz.prog.rowNamed t [101,114,114,111,114]:=List.mem_filter.2 ⟨List.mem_range.2 (by rw[<-aeF];exact e3),e4⟩
 rw[aeC] at hm;obtain rfl:=List.mem_singleton.1 hm;rw[aeB] at e5;exact Dw aeA e5
theorem aeE : ∀ x ∈ ([("herdsman/pack.errEnd", Rows.laid_herdsman_pack_errEnd), ("herdsman/pack.errForm", Rows.laid_herdsman_pack_errForm), ("herdsman/nav.errNoMap", Rows.laid_herdsman_nav_errNoMap), ("herdsman/nav.errBounds", Rows.laid_herdsman_nav_errBounds), ("herdsman/nav.errField", Rows.laid_herdsman_nav_errField), ("herdsman/svc.errScript", Rows.laid_herdsman_svc_errScript)] : List (String × DataW Unit)), ∃ text, x.2 = .iface "*errors.errorString" (.ptr (.agg [.lit (.string text)])) := by
 intro x hx;simp only[List.mem_cons,List.not_mem_nil,or_false] at hx;rcases hx with rfl |rfl |rfl |rfl |rfl |rfl
 ·exact⟨_,J⟩
 ·exact⟨_,J⟩
 ·exact⟨_,J⟩
 ·exact⟨_,J⟩
 ·exact⟨_,J⟩
 ·exact⟨_,J⟩
theorem aeM : ∀ x ∈ ([("herdsman/pack.errEnd", Rows.laid_herdsman_pack_errEnd), ("herdsman/pack.errForm", Rows.laid_herdsman_pack_errForm), ("herdsman/nav.errNoMap", Rows.laid_herdsman_nav_errNoMap), ("herdsman/nav.errBounds", Rows.laid_herdsman_nav_errBounds), ("herdsman/nav.errField", Rows.laid_herdsman_nav_errField), ("herdsman/svc.errScript", Rows.laid_herdsman_svc_errScript)] : List (String × DataW Unit)), ∀ g, Tryz.prog.globalNamed x.1 = some g → (Tryz.prog.globals[g]?).map (·.type) = some 106 := by
 intro x hx g hg;simp only[List.mem_cons,List.not_mem_nil,or_false] at hx;rcases hx with rfl |rfl |rfl |rfl |rfl |rfl
 ·obtain rfl:=Option.some.inj (Ut.symm.trans hg);exact aeG
 ·obtain rfl:=Option.some.inj (Uu.symm.trans hg);exact aeH
 ·obtain rfl:=Option.some.inj (Uv.symm.trans hg);exact aeI
 ·obtain rfl:=Option.some.inj (Uw.symm.trans hg);exact aeJ
 ·obtain rfl:=Option.some.inj (Ux.symm.trans hg);exact aeK
 ·obtain rfl:=Option.some.inj (Uy.symm.trans hg);exact aeL
theorem abm {W:World} (h:laidMetH Tryz.prog CC W): ∃el:Nat->Addr,fK 414 fa gP el (tg W):=by
 obtain⟨ps,TJ,tD,GC⟩:=(UC h).1
 obtain ⟨qs, hlen, hn, _, xC⟩ := ahr aeN aez aeO aeP rfl rfl aeQ aex aey [("herdsman/pack.errEnd", Rows.laid_herdsman_pack_errEnd), ("herdsman/pack.errForm", Rows.laid_herdsman_pack_errForm), ("herdsman/nav.errNoMap", Rows.laid_herdsman_nav_errNoMap), ("herdsman/nav.errBounds", Rows.laid_herdsman_nav_errBounds), ("herdsman/nav.errField", Rows.laid_herdsman_nav_errField), ("herdsman/svc.errScript", Rows.laid_herdsman_svc_errScript)] ps TJ tD GC aeE aeM
 match qs,hlen with
  |[a0,a1,a2,a3,a4,a5],_=>
   obtain⟨TH,fH,gH⟩:=abC h;obtain⟨zw,c0,t0,Tm⟩:=xC 0 _ a0 J J;obtain⟨T0,f0,g0⟩:=Dw Ut zw;obtain⟨hv1,c1,t1,Ea⟩:=xC 1 _ a1 J J;obtain⟨T1,f1,g1⟩:=Dw Uu hv1;obtain⟨hv2,c2,t2,uS⟩:=xC 2 _ a2 J J;obtain⟨T2,f2,g2⟩:=Dw Uv hv2;obtain⟨hv3,c3,t3,JN⟩:=xC 3 _ a3 J J;obtain⟨T3,f3,g3⟩:=Dw Uw hv3;obtain⟨hv4,c4,t4,hb4⟩:=xC 4 _ a4 J J;obtain⟨T4,f4,g4⟩:=Dw Ux hv4;obtain⟨hv5,c5,t5,hb5⟩:=xC 5 _ a5 J J;obtain⟨T5,f5,g5⟩:=Dw Uy hv5;refine⟨λg=>if g=6 then a0 else if g=5 then a1 else if g=2 then a2 else if g=3 then a3 else if g=4 then a4 else a5,λg hg=>?_,λg hg=>?_,λa ha b hb e=>?_,λp hp=>?_⟩
   ·have:g=0∨g=2∨g=3∨g=4∨g=5∨g=6:=by simpa[fa] using hg
    rcases this with rfl |rfl |rfl |rfl |rfl |rfl
    ·exact⟨T5,f5,by simpa using oD g5⟩
    ·exact⟨T2,f2,by simpa using oD g2⟩
    ·exact⟨T3,f3,by simpa using oD g3⟩
    ·exact⟨T4,f4,by simpa using oD g4⟩
    ·exact⟨T1,f1,by simpa using oD g1⟩
    ·exact⟨T0,f0,by simpa using oD g0⟩
   ·have:g=0∨g=2∨g=3∨g=4∨g=5∨g=6:=by simpa[fa] using hg
    rcases this with rfl |rfl |rfl |rfl |rfl |rfl
    ·exact⟨c5,t5,by simpa using oD hb5⟩
    ·exact⟨c2,t2,by simpa using oD uS⟩
    ·exact⟨c3,t3,by simpa using oD JN⟩
    ·exact⟨c4,t4,by simpa using oD hb4⟩
    ·exact⟨c1,t1,by simpa using oD Ea⟩
    ·exact⟨c0,t0,by simpa using oD Tm⟩
   ·simp only[List.nodup_cons,List.mem_cons,List.not_mem_nil,or_false,not_or,List.nodup_nil,and_true,not_false_eq_true] at hn;have ha:a=0∨a=2∨a=3∨a=4∨a=5∨a=6:=by simpa[fa] using ha
    have hb:b=0∨b=2∨b=3∨b=4∨b=5∨b=6:=by simpa[fa] using hb
    rcases ha with rfl |rfl |rfl |rfl |rfl |rfl<;>rcases hb with rfl |rfl |rfl |rfl |rfl |rfl<;>first |rfl |(exfalso;simp at e;simp_all)
   ·have:p=(1,.iface 262 (.agg #[.pointer (some ⟨8,106,none⟩)])):=by simpa[gP] using hp
    subst this;exact⟨TH,fH,oD gH⟩
noncomputable def u9:Nat:=(World.holding Tryz.prog default ⟨#[],#[],[]⟩).heap.size
noncomputable def UB (os:Os):World:=
 let w0:=World.holding Tryz.prog os ⟨#[.cells #[.string {data:= #[116,104,101,32,98,121,116,101,115,32,101,110,100]}] 434,.cells #[.string {data:= #[110,111,98,111,100,121,32,119,114,105,116,101,115,32,115,111]}] 434,.cells #[.string {data:= #[116,104,101,114,101,32,105,115,32,110,111,32,109,97,112]}] 434,.cells #[.string {data:= #[116,104,101,114,101,32,105,115,32,110,111,32,115,117,99,104,32,99,101,108,108,32,111,114,32,115,101,99,116,111,114]}] 434,.cells #[.string {data:= #[116,104,101,114,101,32,105,115,32,110,111,32,115,117,99,104,32,102,105,101,108,100]}] 434,.cells #[.string {data:= #[110,111,98,111,100,121,32,119,114,105,116,101,115,32,115,111]}] 434],#[],[]⟩
 {w0 with heap:=((((((w0.heap.modify 6 λ
  | .cells _ t frozen=> .cells #[.iface 414 (.pointer (some ⟨u9+0,0,none⟩))] t frozen
  |o=>o).modify 5 λ
  | .cells _ t frozen=> .cells #[.iface 414 (.pointer (some ⟨u9+1,0,none⟩))] t frozen
  |o=>o).modify 2 λ
  | .cells _ t frozen=> .cells #[.iface 414 (.pointer (some ⟨u9+2,0,none⟩))] t frozen
  |o=>o).modify 3 λ
  | .cells _ t frozen=> .cells #[.iface 414 (.pointer (some ⟨u9+3,0,none⟩))] t frozen
  |o=>o).modify 4 λ
  | .cells _ t frozen=> .cells #[.iface 414 (.pointer (some ⟨u9+4,0,none⟩))] t frozen
  |o=>o).modify 0 λ
  | .cells _ t frozen=> .cells #[.iface 414 (.pointer (some ⟨u9+5,0,none⟩))] t frozen
  |o=>o).modify 1 λ
  | .cells _ t frozen=> .cells #[.iface 262 (.agg #[.pointer (some ⟨8,106,none⟩)])] t frozen
  |o=>o}
theorem aeR (os:Os) (args:Array Value):laidMetH Tryz.prog CC ((UB os).forCall (λ_ _=>0) ⟨#[],args,[]⟩).memory:=
 laidMetH_of_parts (laidMet_of_run (ps:=[.cell 6 0,.cell (u9+0) 0,.cell 5 0,.cell (u9+1) 0,.cell 2 0,.cell (u9+2) 0,.cell 3 0,.cell (u9+3) 0,.cell 4 0,.cell (u9+4) 0,.cell 0 0,.cell (u9+5) 0]) 8 aA aA aA) aA
end Go.Proofs.YthodkonhneebbaaGreatDoor
