/- Part of the proof. No condition. -/
import Derived.Test.YthodkonhneebbaaGreatDoorRows
import Derived.WalkKit
import Derived.ProofKit
import Derived.OpenShut
import Derived.ShutString
import Derived.ChangeOld
import Derived.Below
import Derived.SizedLaws
import Derived.ChangeSlices
import Derived.Test.YthodkonhneebbaaGreatDoorCards
import Derived.Test.YthodkonhneebbaaGreatDoorTie
import Derived.SevenTiedAt
import Derived.Test.YthodkonhneebbaaGreatDoorKD13
import Derived.Test.YthodkonhneebbaaGreatDoorKD18
import Derived.Test.YthodkonhneebbaaGreatDoorKDLaid
namespace Go.Proofs.YthodkonhneebbaaGreatDoor.topDirty
open Go.ChangeShapes Go.WideShapes Go.ChangeAt Go.RowKit Go.Hx
open Go.ChangeMaps (open_string shut_string)
set_option linter.unusedVariables false
theorem own:ownKnob Tryz.prog.godebug=none:=ay
theorem laidOut:laidOutB Tryz.prog=true:=ay
theorem afF {α:Type} {cs:List α} (h:cs.length=3): ∃c0 c1 c2,cs=[c0,c1,c2]:=by
 match cs,h with
 |[c0,c1,c2],_=>exact⟨c0,c1,c2,rfl⟩
theorem agz:LB Tryz.prog 97 GK (λx=>(xn x.Kind/\xn x.A/\xn x.B)):=by
 refine⟨by kernel_rfl,λenc w base spare held n cs y h=>?_⟩
 obtain⟨xs,m,_,_,hl,hlen,hf⟩:=DataW.trod_struct Tryz.underlying97 h
 have hc:Tryz.prog.cellsOf 97=3:=ay
 rw[hc] at hl
 obtain⟨c0,c1,c2,rfl⟩:=afF hl
 obtain⟨y0,hy0⟩: ∃y,xs[0]? =some y:=⟨xs[0]'(by rw[hlen];exact Nat.le_of_ble_eq_true rfl),List.getElem?_eq_getElem _⟩
 have f0:=(hf 0 _ rfl).trans hy0
 have e0:Tryz.prog.cellsOf 3=1:=ay
 obtain⟨n0,Gj,_,wn0⟩:=DataW.trod_int Tryz.underlying3 f0
 have Cd:[c0]=[.int .i64 n0]:=by
  rw[<-Gj];show _=List.take (Tryz.prog.cellsOf 3) _;rw[e0];rfl
 obtain rfl:=(List.cons.inj Cd).1
 obtain⟨y1,hy1⟩: ∃y,xs[1]? =some y:=⟨xs[1]'(by rw[hlen];exact Nat.le_of_ble_eq_true rfl),List.getElem?_eq_getElem _⟩
 have f1:=(hf 1 _ rfl).trans hy1
 have e1:Tryz.prog.cellsOf 3=1:=ay
 obtain⟨n1,hn1,_,wn1⟩:=DataW.trod_int Tryz.underlying3 f1
 have NT:[c1]=[.int .i64 n1]:=by
  rw[<-hn1];show _=List.take (Tryz.prog.cellsOf 3) _;rw[e1];rfl
 obtain rfl:=(List.cons.inj NT).1
 obtain⟨y2,UA⟩: ∃y,xs[2]? =some y:=⟨xs[2]'(by rw[hlen];exact Nat.le_of_ble_eq_true rfl),List.getElem?_eq_getElem _⟩
 have f2:=(hf 2 _ rfl).trans UA
 have e2:Tryz.prog.cellsOf 3=1:=ay
 obtain⟨n2,J0,_,wn2⟩:=DataW.trod_int Tryz.underlying3 f2
 have hm2:[c2]=[.int .i64 n2]:=by
  rw[<-J0];show _=List.take (Tryz.prog.cellsOf 3) _;rw[e2];rfl
 obtain rfl:=(List.cons.inj hm2).1
 exact⟨⟨n0,n1,n2⟩,rfl,⟨wf_i64 wn0,wf_i64 wn1,wf_i64 wn2⟩⟩
set_option maxRecDepth 100000 in
set_option maxHeartbeats 1000000 in
theorem lifted (os:Os) (started:os.Started) (H:Type) (enc:TypeId×Value->H):
 ReturnsInHanded {} Tryz.checked os 5 .any (λw args=>(Rows.topDirtySpec.pre enc Tryz.prog Tryz.f5 Rows.topDirtyRow.domain false w args/\laidMetH Tryz.prog Cr w)/\sizedMet enc Tryz.prog Tryz.f5 (OpenSpec.ofChange Rows.topDirtySpec) false w args) (Rows.topDirtySpec.post enc Tryz.prog Tryz.f5 false true false false):=by
 refine returnsInHanded_of_change_and (C:=Tryz.checked) (X:=λw _=>laidMetH Tryz.prog Cr w) (λ_ _ _ hh h=>h.of_heap hh) own started ay Tryz.func5
  (ChangeSpec.witness_at (enc:=enc) (C:=Tryz.checked) (os:=os) (X:=λw _=>laidMetH Tryz.prog Cr w) false (UZ os) #[(.int .i64 0),(.int .i64 0),(.slice none 0 0),(.slice none 0 0)] 8 rfl ay ay ay ay ay (afq os _)) ?_
 intro W base args ds gs before Uv hW ajF aeF hL _
 obtain⟨el,hG⟩:=ab1 hL
 have Gx: ∀(j:Nat) t v,Tryz.f5.params[j]? =some t->args[j]? =some v->Value.okWide Tryz.prog W .any base t v:=Uv
 have hW':=hW
 obtain⟨p,q,Sv,hV,rfl,hfz,qD⟩:=hW
 have hA:DataW.TrodAll enc Tryz.prog W 0 (λ_=>true) true Tryz.f5.params.toList args.toList ds p:=Sv
 rw[Tryz.params5] at hA Gx
 obtain⟨v0,vs0,d0,ds0,p0,q0,ajD,rfl,rfl,h0,r0⟩:=trodAll_cons hA
 obtain⟨v1,vs1,d1,ds1,p1,q1,rfl,rfl,rfl,h1,r1⟩:=trodAll_cons r0
 obtain⟨v2,vs2,d2,ds2,p2,q2,rfl,rfl,rfl,h2,r2⟩:=trodAll_cons r1
 obtain⟨v3,vs3,d3,ds3,p3,q3,rfl,rfl,rfl,h3,r3⟩:=trodAll_cons r2
 obtain⟨rfl,rfl,rfl⟩:=trodAll_nil r3
 obtain rfl:args= #[v0,v1,v2,v3]:=by cases args;simp_all
 obtain⟨rfl,rfl⟩:=trodVars_none hV
 obtain⟨a0,rfl,rfl,rfl,w0⟩:=open_int Tryz.underlying3 (Gx 0 3 v0 rfl rfl) h0
 obtain⟨a1,rfl,rfl,rfl,w1⟩:=open_int Tryz.underlying3 (Gx 1 3 v1 rfl rfl) h1
 obtain⟨a2,ajS,cap2,rfl⟩:=okWide_slice Tryz.underlying22 (Gx 2 22 v2 rfl rfl)
 have k2:=h2
 have lt2: ∀x∈p2,x.block<W.heap.size:=by obtain⟨m,hm⟩:=k2;exact DataW.trod_lt m _ _ _ hm
 obtain⟨fu2,hf2⟩:=h2
 obtain⟨b2,n2,x2,TR,sr2,cp2,gd2,ml2⟩:=Vy Tryz.underlying22 (agA Tryz.underlying5 ay) hf2
 simp only[Value.cells,List.cons.injEq,Value.slice.injEq,and_true] at TR
 obtain⟨rfl,rfl,rfl⟩:=TR
 obtain⟨a3,ajT,ajA,rfl⟩:=okWide_slice Tryz.underlying23 (Gx 3 23 v3 rfl rfl)
 have k3:=h3
 have lt3: ∀x∈p3,x.block<W.heap.size:=by obtain⟨m,hm⟩:=k3;exact DataW.trod_lt m _ _ _ hm
 obtain⟨fu3,hf3⟩:=h3
 obtain⟨b3,n3,x3,TS,sr3,cp3,gd3,ml3⟩:=Vy Tryz.underlying23 agz hf3
 simp only[Value.cells,List.cons.injEq,Value.slice.injEq,and_true] at TS
 obtain⟨rfl,rfl,rfl⟩:=TS
 clear Sv Uv aeF
 have pu:dB.f a0 a1 x2 x3=some true:=Ye a0 a1 x2 x3 (wf_i64 w0) (wf_i64 w1) gd2 gd3 ml2 ml3
 refine(ahD W (dB.c (F:=ss W) pu hG sr2 cp2 sr3 cp3)).mono λe W' ⟨he,Ma⟩=>?_
 subst he
 exact⟨_,rfl,_,_,_,[],_,[],hW',trodAll_mk1 (shut_bool Tryz.underlying4 _),(trodAll_cons_mk (shut_int Tryz.underlying3 w0) (trodAll_cons_mk (shut_int Tryz.underlying3 w1) (trodAll_cons_mk (Below.trod laidOut ay (of_decide_eq_true ay) k2 Ma lt2) (trodAll_cons_mk (Below.trod laidOut ay (of_decide_eq_true ay) k3 Ma lt3) trodAll_mk0)))),rfl,Ma.frame _,λh=>by cases h⟩
theorem iL {a b:Bool} (ha:a=true) (hb:b=true):(a&&b)=true:=by rw[ha,hb];rfl
theorem j1:(laidOutB Tryz.pinned.checked.prog)=true:=ay
theorem j2:(mapsRowed Tryz.pinned.checked.prog)=true:=ay
theorem j9:(Rows.topDirtyRow.inPlace==Tryz.pinned.checked.prog.inPlace 5)=true:=ay
theorem j10:(Rows.topDirtyRow.unfollowed==Tryz.pinned.checked.prog.unfollowed 5)=true:=ay
theorem j11:(Rows.topDirtyRow.recurses==Tryz.pinned.checked.prog.recurses 5)=true:=ay
theorem j12:(Rows.topDirtyRow.named==Tryz.pinned.checked.prog.varsNamed 5)=true:=ay
theorem j24:(Tryz.pinned.checked.prog.stopsHeard)=true:=ay
theorem j25:(Tryz.pinned.checked.prog.mayEnter)=true:=ay
theorem j26:(Rows.topDirtyRow.lifted==Tryz.pinned.checked.prog.liftsFinal)=true:=ay
theorem j27:(Tryz.pinned.checked.prog.make==some Rows.topDirtyRow.make)=true:=ay
theorem closed:joinedFacts Tryz.pinned.checked.prog 5 Tryz.f5 Rows.topDirtySpec Rows.topDirtyRow=true:=(iL (iL (iL (iL (iL (iL (iL (iL (iL (iL (iL (iL (iL (iL (iL (iL (iL (iL (iL (iL (iL (iL (iL (iL (iL (iL (iL (iL (iL (iL (iL ay j1) j2) ay) ay) ay) ay) ay) ay) j9) j10) j11) j12) ay) ay) ay) ay) ay) ay) ay) ay) ay) ay) ay) j24) j25) j26) j27) ay) ay) ay) ay)
theorem over:Rows.topDirtyRow.holds Tryz.pinned (OpenSpec.ofChange Rows.topDirtySpec):=
 OpenClaim.holds_of_wide 5 Tryz.f5 rfl rfl rfl rfl rfl rfl rfl ⟨rfl,rfl,rfl,rfl,rfl⟩ rfl rfl rfl rfl rfl ay Tryz.func5 closed
  (of_decide_eq_true ay) (by unfold Func.isWrapper;first |(rw[if_pos (by decide+kernel)];kernel_rfl) |(rw[if_neg (by decide+kernel)];exact⟨rfl,rfl⟩))
  (λos started H enc _=>lifted os started H enc)
theorem w1:Rows.topDirtyRow.wfByText (OpenSpec.ofChange Rows.topDirtySpec)=true:=ay
theorem w2 : Tryz.pinned.checked.prog.mainIs = some (true, ("da8cad8b8c14ce14b521535589a95d9f7a8b8134b671f9781e1fbf64c3478581" : String).toList) := by kernel_rfl
theorem w3:true=Tryz.pinned.checked.prog.looks []:=ay
theorem w4:false=Rows.topDirtyRow.goesBy Tryz.pinned.checked.prog:=ay
theorem w5 : Tryz.prog.funcNamed "herdsman/herdsmantop.TopDirty" = some 5 := by kernel_rfl
theorem card:Rows.TopDirtyCardSaid:=
 Claim7.holds_tied_plain_at .later [] [.handle, .sentinel, .sentinel, .sentinel, .sentinel, .sentinel, .sentinel] true (true, "da8cad8b8c14ce14b521535589a95d9f7a8b8134b671f9781e1fbf64c3478581") true over (fun _ h => by cases h) w1 (fun _ h => by cases h) topDirty_row_tie rfl ⟨rfl, rfl⟩ w2 rfl
  (λf fn hf hfn=>by
    obtain rfl:f=5:=Option.some.inj (w5.symm.trans hf) |>.symm
    obtain rfl:fn=Tryz.f5:=(Option.some.inj (Tryz.func5.symm.trans hfn)).symm
    exact⟨w3,λj t ht=>by
     have ub:(Tryz.f5.params.toList.all λt=>!Tryz.prog.wantsStandIn t)=true:=ay
     have hm:t∈Tryz.f5.params.toList:=Array.mem_toList_iff.2 (Array.mem_of_getElem? ht)
     have:=List.all_eq_true.1 ub t hm
     show Tryz.prog.wantsStandIn t=false
     simpa using this⟩)
  w4
end Go.Proofs.YthodkonhneebbaaGreatDoor.topDirty
namespace Go.Proofs.YthodkonhneebbaaGreatDoor
theorem topDirty_holds:Rows.TopDirtyCardSaid:=topDirty.card
end Go.Proofs.YthodkonhneebbaaGreatDoor
