/- Part of the proof. No condition. -/
import Derived.Test.YthodkonhneebbaaGreatDoorRows
import Derived.WalkKit
import Derived.ProofKit
import Derived.OpenShut
import Derived.ShutString
import Derived.ChangeOld
import Derived.Below
import Derived.SizedLaws
import Derived.ChangeSlices
import Derived.Test.YthodkonhneebbaaGreatDoorCards
import Derived.Test.YthodkonhneebbaaGreatDoorTie
import Derived.SevenTiedAt
import Derived.Test.YthodkonhneebbaaGreatDoorKD12
import Derived.Test.YthodkonhneebbaaGreatDoorKD17
import Derived.Test.YthodkonhneebbaaGreatDoorKDLaid
namespace Go.Proofs.YthodkonhneebbaaGreatDoor.topDistances
open Go.ChangeShapes Go.WideShapes Go.ChangeAt Go.RowKit Go.Hx
open Go.ChangeMaps (open_string shut_string)
set_option linter.unusedVariables false
theorem own:ownKnob Tryz.prog.godebug=none:=aA
theorem laidOut:laidOutB Tryz.prog=true:=aA
theorem ae3 {α:Type} {cs:List α} (h:cs.length=3): ∃c0 c1 c2,cs=[c0,c1,c2]:=by
 match cs,h with
 |[c0,c1,c2],_=>exact⟨c0,c1,c2,rfl⟩
theorem afR:IF Tryz.prog 97 Ep (λx=>(ss x.Kind/\ss x.A/\ss x.B)):=by
 refine⟨by kernel_rfl,λenc w base spare held n cs y h=>?_⟩
 obtain⟨xs,m,_,_,hl,hlen,hf⟩:=DataW.trod_struct Tryz.underlying97 h
 have hc:Tryz.prog.cellsOf 97=3:=aA
 rw[hc] at hl
 obtain⟨c0,c1,c2,rfl⟩:=ae3 hl
 obtain⟨y0,hy0⟩: ∃y,xs[0]? =some y:=⟨xs[0]'(by rw[hlen];exact Nat.le_of_ble_eq_true rfl),List.getElem?_eq_getElem _⟩
 have f0:=(hf 0 _ rfl).trans hy0
 have e0:Tryz.prog.cellsOf 3=1:=aA
 obtain⟨n0,AV,_,wn0⟩:=DataW.trod_int Tryz.underlying3 f0
 have Cp:[c0]=[.int .i64 n0]:=by
  rw[<-AV];show _=List.take (Tryz.prog.cellsOf 3) _;rw[e0];rfl
 obtain rfl:=(List.cons.inj Cp).1
 obtain⟨y1,hy1⟩: ∃y,xs[1]? =some y:=⟨xs[1]'(by rw[hlen];exact Nat.le_of_ble_eq_true rfl),List.getElem?_eq_getElem _⟩
 have f1:=(hf 1 _ rfl).trans hy1
 have e1:Tryz.prog.cellsOf 3=1:=aA
 obtain⟨n1,hn1,_,wn1⟩:=DataW.trod_int Tryz.underlying3 f1
 have NF:[c1]=[.int .i64 n1]:=by
  rw[<-hn1];show _=List.take (Tryz.prog.cellsOf 3) _;rw[e1];rfl
 obtain rfl:=(List.cons.inj NF).1
 obtain⟨y2,Ue⟩: ∃y,xs[2]? =some y:=⟨xs[2]'(by rw[hlen];exact Nat.le_of_ble_eq_true rfl),List.getElem?_eq_getElem _⟩
 have f2:=(hf 2 _ rfl).trans Ue
 have e2:Tryz.prog.cellsOf 3=1:=aA
 obtain⟨n2,J0,_,wn2⟩:=DataW.trod_int Tryz.underlying3 f2
 have hm2:[c2]=[.int .i64 n2]:=by
  rw[<-J0];show _=List.take (Tryz.prog.cellsOf 3) _;rw[e2];rfl
 obtain rfl:=(List.cons.inj hm2).1
 exact⟨⟨n0,n1,n2⟩,rfl,⟨wf_i64 wn0,wf_i64 wn1,wf_i64 wn2⟩⟩
set_option maxRecDepth 100000 in
set_option maxHeartbeats 1000000 in
theorem lifted (os:Os) (started:os.Started) (H:Type) (enc:TypeId×Value->H):
 ReturnsInHanded {} Tryz.checked os 3 .any (λw args=>(Rows.topDistancesSpec.pre enc Tryz.prog Tryz.f3 Rows.topDistancesRow.domain false w args/\laidMetH Tryz.prog CC w)/\sizedMet enc Tryz.prog Tryz.f3 (OpenSpec.ofChange Rows.topDistancesSpec) false w args) (Rows.topDistancesSpec.post enc Tryz.prog Tryz.f3 false true false false):=by
 refine returnsInHanded_of_change_and (C:=Tryz.checked) (X:=λw _=>laidMetH Tryz.prog CC w) (λ_ _ _ hh h=>h.of_heap hh) own started aA Tryz.func3
  (ChangeSpec.witness_at (enc:=enc) (C:=Tryz.checked) (os:=os) (X:=λw _=>laidMetH Tryz.prog CC w) false (UB os) #[(.int .i64 0),(.int .i64 0),(.int .i64 0),(.slice none 0 0),(.slice none 0 0),(.int .i64 0),(.slice none 0 0)] 8 rfl aA aA aA aA aA (aeR os _)) ?_
 intro W base args ds gs before T9 hW ai5 ad7 hL _
 obtain⟨el,hG⟩:=abm hL
 have AY: ∀(j:Nat) t v,Tryz.f3.params[j]? =some t->args[j]? =some v->Value.okWide Tryz.prog W .any base t v:=T9
 have hW':=hW
 obtain⟨p,q,R0,hV,rfl,hfz,tD⟩:=hW
 have hA:DataW.TrodAll enc Tryz.prog W 0 (λ_=>true) true Tryz.f3.params.toList args.toList ds p:=R0
 rw[Tryz.params3] at hA AY
 obtain⟨v0,vs0,d0,ds0,p0,q0,ai2,rfl,rfl,h0,r0⟩:=trodAll_cons hA
 obtain⟨v1,vs1,d1,ds1,p1,q1,rfl,rfl,rfl,h1,r1⟩:=trodAll_cons r0
 obtain⟨v2,vs2,d2,ds2,p2,q2,rfl,rfl,rfl,h2,r2⟩:=trodAll_cons r1
 obtain⟨v3,vs3,d3,ds3,p3,q3,rfl,rfl,rfl,h3,r3⟩:=trodAll_cons r2
 obtain⟨v4,vs4,d4,ds4,p4,q4,rfl,rfl,rfl,h4,r4⟩:=trodAll_cons r3
 obtain⟨v5,vs5,d5,ds5,p5,q5,rfl,rfl,rfl,h5,r5⟩:=trodAll_cons r4
 obtain⟨v6,vs6,d6,ds6,p6,q6,rfl,rfl,rfl,h6,r6⟩:=trodAll_cons r5
 obtain⟨rfl,rfl,rfl⟩:=trodAll_nil r6
 obtain rfl:args= #[v0,v1,v2,v3,v4,v5,v6]:=by cases args;simp_all
 obtain⟨rfl,rfl⟩:=trodVars_none hV
 obtain⟨a0,rfl,rfl,rfl,w0⟩:=open_int Tryz.underlying3 (AY 0 3 v0 rfl rfl) h0
 obtain⟨a1,rfl,rfl,rfl,w1⟩:=open_int Tryz.underlying3 (AY 1 3 v1 rfl rfl) h1
 obtain⟨a2,rfl,rfl,rfl,w2⟩:=open_int Tryz.underlying3 (AY 2 3 v2 rfl rfl) h2
 obtain⟨a3,aja,aiX,rfl⟩:=okWide_slice Tryz.underlying22 (AY 3 22 v3 rfl rfl)
 have k3:=h3
 have lt3: ∀x∈p3,x.block<W.heap.size:=by obtain⟨m,hm⟩:=k3;exact DataW.trod_lt m _ _ _ hm
 obtain⟨fu3,hf3⟩:=h3
 obtain⟨b3,n3,x3,Tq,sr3,cp3,gd3,ml3⟩:=OG Tryz.underlying22 (afT Tryz.underlying5 aA) hf3
 simp only[Value.cells,List.cons.injEq,Value.slice.injEq,and_true] at Tq
 obtain⟨rfl,rfl,rfl⟩:=Tq
 obtain⟨a4,ajb,aiY,rfl⟩:=okWide_slice Tryz.underlying23 (AY 4 23 v4 rfl rfl)
 have k4:=h4
 have lt4: ∀x∈p4,x.block<W.heap.size:=by obtain⟨m,hm⟩:=k4;exact DataW.trod_lt m _ _ _ hm
 obtain⟨fu4,hf4⟩:=h4
 obtain⟨b4,n4,x4,Tr,sr4,cp4,gd4,ml4⟩:=OG Tryz.underlying23 afR hf4
 simp only[Value.cells,List.cons.injEq,Value.slice.injEq,and_true] at Tr
 obtain⟨rfl,rfl,rfl⟩:=Tr
 obtain⟨a5,rfl,rfl,rfl,w5⟩:=open_int Tryz.underlying3 (AY 5 3 v5 rfl rfl) h5
 obtain⟨a6,ajc,aiZ,rfl⟩:=okWide_slice Tryz.underlying24 (AY 6 24 v6 rfl rfl)
 have k6:=h6
 have lt6: ∀x∈p6,x.block<W.heap.size:=by obtain⟨m,hm⟩:=k6;exact DataW.trod_lt m _ _ _ hm
 obtain⟨fu6,hf6⟩:=h6
 obtain⟨b6,n6,x6,Ts,sr6,cp6,gd6,ml6⟩:=OG Tryz.underlying24 (afS Tryz.underlying3 aA) hf6
 simp only[Value.cells,List.cons.injEq,Value.slice.injEq,and_true] at Ts
 obtain⟨rfl,rfl,rfl⟩:=Ts
 clear R0 T9 ad7
 have pu:o_.f a0 a1 a2 x3 x4 a5 x6=some true:=X4 a0 a1 a2 x3 x4 a5 x6 (wf_i64 w0) (wf_i64 w1) (wf_i64 w2) gd3 gd4 (wf_i64 w5) gd6 ml3 ml4 ml6
 refine(agV W (o_.c (F:=tg W) pu hG sr3 cp3 sr4 cp4 sr6 cp6)).mono λe W' ⟨he,I5⟩=>?_
 subst he
 exact⟨_,rfl,_,_,_,[],_,[],hW',trodAll_mk1 (shut_bool Tryz.underlying4 _),(trodAll_cons_mk (shut_int Tryz.underlying3 w0) (trodAll_cons_mk (shut_int Tryz.underlying3 w1) (trodAll_cons_mk (shut_int Tryz.underlying3 w2) (trodAll_cons_mk (Below.trod laidOut aA (of_decide_eq_true aA) k3 I5 lt3) (trodAll_cons_mk (Below.trod laidOut aA (of_decide_eq_true aA) k4 I5 lt4) (trodAll_cons_mk (shut_int Tryz.underlying3 w5) (trodAll_cons_mk (Below.trod laidOut aA (of_decide_eq_true aA) k6 I5 lt6) trodAll_mk0))))))),rfl,I5.frame _,λh=>by cases h⟩
theorem iO {a b:Bool} (ha:a=true) (hb:b=true):(a&&b)=true:=by rw[ha,hb];rfl
theorem j1:(laidOutB Tryz.pinned.checked.prog)=true:=aA
theorem j2:(mapsRowed Tryz.pinned.checked.prog)=true:=aA
theorem j9:(Rows.topDistancesRow.inPlace==Tryz.pinned.checked.prog.inPlace 3)=true:=aA
theorem j10:(Rows.topDistancesRow.unfollowed==Tryz.pinned.checked.prog.unfollowed 3)=true:=aA
theorem j11:(Rows.topDistancesRow.recurses==Tryz.pinned.checked.prog.recurses 3)=true:=aA
theorem j12:(Rows.topDistancesRow.named==Tryz.pinned.checked.prog.varsNamed 3)=true:=aA
theorem j24:(Tryz.pinned.checked.prog.stopsHeard)=true:=aA
theorem j25:(Tryz.pinned.checked.prog.mayEnter)=true:=aA
theorem j26:(Rows.topDistancesRow.lifted==Tryz.pinned.checked.prog.liftsFinal)=true:=aA
theorem j27:(Tryz.pinned.checked.prog.make==some Rows.topDistancesRow.make)=true:=aA
theorem closed:joinedFacts Tryz.pinned.checked.prog 3 Tryz.f3 Rows.topDistancesSpec Rows.topDistancesRow=true:=(iO (iO (iO (iO (iO (iO (iO (iO (iO (iO (iO (iO (iO (iO (iO (iO (iO (iO (iO (iO (iO (iO (iO (iO (iO (iO (iO (iO (iO (iO (iO aA j1) j2) aA) aA) aA) aA) aA) aA) j9) j10) j11) j12) aA) aA) aA) aA) aA) aA) aA) aA) aA) aA) aA) j24) j25) j26) j27) aA) aA) aA) aA)
theorem over:Rows.topDistancesRow.holds Tryz.pinned (OpenSpec.ofChange Rows.topDistancesSpec):=
 OpenClaim.holds_of_wide 3 Tryz.f3 rfl rfl rfl rfl rfl rfl rfl ⟨rfl,rfl,rfl,rfl,rfl⟩ rfl rfl rfl rfl rfl aA Tryz.func3 closed
  (of_decide_eq_true aA) (by unfold Func.isWrapper;first |(rw[if_pos (by decide+kernel)];kernel_rfl) |(rw[if_neg (by decide+kernel)];exact⟨rfl,rfl⟩))
  (λos started H enc _=>lifted os started H enc)
theorem w1:Rows.topDistancesRow.wfByText (OpenSpec.ofChange Rows.topDistancesSpec)=true:=aA
theorem w2 : Tryz.pinned.checked.prog.mainIs = some (true, ("da8cad8b8c14ce14b521535589a95d9f7a8b8134b671f9781e1fbf64c3478581" : String).toList) := by kernel_rfl
theorem w3:true=Tryz.pinned.checked.prog.looks []:=aA
theorem w4:false=Rows.topDistancesRow.goesBy Tryz.pinned.checked.prog:=aA
theorem w5 : Tryz.prog.funcNamed "herdsman/herdsmantop.TopDistances" = some 3 := by kernel_rfl
theorem card:Rows.TopDistancesCardSaid:=
 Claim7.holds_tied_plain_at .later [] [.handle, .sentinel, .sentinel, .sentinel, .sentinel, .sentinel, .sentinel] true (true, "da8cad8b8c14ce14b521535589a95d9f7a8b8134b671f9781e1fbf64c3478581") true over (fun _ h => by cases h) w1 (fun _ h => by cases h) topDistances_row_tie rfl ⟨rfl, rfl⟩ w2 rfl
  (λf fn hf hfn=>by
    obtain rfl:f=3:=Option.some.inj (w5.symm.trans hf) |>.symm
    obtain rfl:fn=Tryz.f3:=(Option.some.inj (Tryz.func3.symm.trans hfn)).symm
    exact⟨w3,λj t ht=>by
     have sa:(Tryz.f3.params.toList.all λt=>!Tryz.prog.wantsStandIn t)=true:=aA
     have hm:t∈Tryz.f3.params.toList:=Array.mem_toList_iff.2 (Array.mem_of_getElem? ht)
     have:=List.all_eq_true.1 sa t hm
     show Tryz.prog.wantsStandIn t=false
     simpa using this⟩)
  w4
end Go.Proofs.YthodkonhneebbaaGreatDoor.topDistances
namespace Go.Proofs.YthodkonhneebbaaGreatDoor
theorem topDistances_holds:Rows.TopDistancesCardSaid:=topDistances.card
end Go.Proofs.YthodkonhneebbaaGreatDoor
