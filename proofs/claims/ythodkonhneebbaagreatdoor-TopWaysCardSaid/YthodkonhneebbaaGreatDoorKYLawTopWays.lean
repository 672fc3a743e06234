/- Part of the proof. No condition. -/
import Derived.Test.YthodkonhneebbaaGreatDoorRows
import Derived.WalkKit
import Derived.ProofKit
import Derived.OpenShut
import Derived.ShutString
import Derived.ChangeOld
import Derived.Below
import Derived.SizedLaws
import Derived.ChangeSlices
import Derived.Test.YthodkonhneebbaaGreatDoorCards
import Derived.Test.YthodkonhneebbaaGreatDoorTie
import Derived.SevenTiedAt
import Derived.Test.YthodkonhneebbaaGreatDoorKY8
import Derived.Test.YthodkonhneebbaaGreatDoorKY10
import Derived.Test.YthodkonhneebbaaGreatDoorKYLaid
namespace Go.Proofs.YthodkonhneebbaaGreatDoor.topWays
open Go.ChangeShapes Go.WideShapes Go.ChangeAt Go.RowKit Go.Hx
open Go.ChangeMaps (open_string shut_string)
set_option linter.unusedVariables false
theorem own:ownKnob Tryz.prog.godebug=none:=aA
theorem laidOut:laidOutB Tryz.prog=true:=aA
theorem ahf {α:Type} {cs:List α} (h:cs.length=3): ∃c0 c1 c2,cs=[c0,c1,c2]:=by
 match cs,h with
 |[c0,c1,c2],_=>exact⟨c0,c1,c2,rfl⟩
theorem ah_:JX Tryz.prog 97 Fu (λx=>(tl x.Kind/\tl x.A/\tl x.B)):=by
 refine⟨by kernel_rfl,λenc w base spare held n cs y h=>?_⟩
 obtain⟨xs,m,_,_,hl,hlen,hf⟩:=DataW.trod_struct Tryz.underlying97 h
 have hc:Tryz.prog.cellsOf 97=3:=aA
 rw[hc] at hl
 obtain⟨c0,c1,c2,rfl⟩:=ahf hl
 obtain⟨y0,hy0⟩: ∃y,xs[0]? =some y:=⟨xs[0]'(by rw[hlen];exact Nat.le_of_ble_eq_true rfl),List.getElem?_eq_getElem _⟩
 have f0:=(hf 0 _ rfl).trans hy0
 have e0:Tryz.prog.cellsOf 3=1:=aA
 obtain⟨n0,HS,_,wn0⟩:=DataW.trod_int Tryz.underlying3 f0
 have Dh:[c0]=[.int .i64 n0]:=by
  rw[<-HS];show _=List.take (Tryz.prog.cellsOf 3) _;rw[e0];rfl
 obtain rfl:=(List.cons.inj Dh).1
 obtain⟨y1,hy1⟩: ∃y,xs[1]? =some y:=⟨xs[1]'(by rw[hlen];exact Nat.le_of_ble_eq_true rfl),List.getElem?_eq_getElem _⟩
 have f1:=(hf 1 _ rfl).trans hy1
 have e1:Tryz.prog.cellsOf 3=1:=aA
 obtain⟨n1,hn1,_,wn1⟩:=DataW.trod_int Tryz.underlying3 f1
 have Po:[c1]=[.int .i64 n1]:=by
  rw[<-hn1];show _=List.take (Tryz.prog.cellsOf 3) _;rw[e1];rfl
 obtain rfl:=(List.cons.inj Po).1
 obtain⟨y2,Wj⟩: ∃y,xs[2]? =some y:=⟨xs[2]'(by rw[hlen];exact Nat.le_of_ble_eq_true rfl),List.getElem?_eq_getElem _⟩
 have f2:=(hf 2 _ rfl).trans Wj
 have e2:Tryz.prog.cellsOf 3=1:=aA
 obtain⟨n2,Ll,_,wn2⟩:=DataW.trod_int Tryz.underlying3 f2
 have hm2:[c2]=[.int .i64 n2]:=by
  rw[<-Ll];show _=List.take (Tryz.prog.cellsOf 3) _;rw[e2];rfl
 obtain rfl:=(List.cons.inj hm2).1
 exact⟨⟨n0,n1,n2⟩,rfl,⟨wf_i64 wn0,wf_i64 wn1,wf_i64 wn2⟩⟩
set_option maxRecDepth 100000 in
set_option maxHeartbeats 1000000 in
theorem lifted (os:Os) (started:os.Started) (H:Type) (enc:TypeId×Value->H):
 ReturnsInHanded {} Tryz.checked os 4 .any (λw args=>(Rows.topWaysSpec.pre enc Tryz.prog Tryz.f4 Rows.topWaysRow.domain false w args/\laidMetH Tryz.prog Dy w)/\sizedMet enc Tryz.prog Tryz.f4 (OpenSpec.ofChange Rows.topWaysSpec) false w args) (Rows.topWaysSpec.post enc Tryz.prog Tryz.f4 false true false false):=by
 refine returnsInHanded_of_change_and (C:=Tryz.checked) (X:=λw _=>laidMetH Tryz.prog Dy w) (λ_ _ _ hh h=>h.of_heap hh) own started aA Tryz.func4
  (ChangeSpec.witness_at (enc:=enc) (C:=Tryz.checked) (os:=os) (X:=λw _=>laidMetH Tryz.prog Dy w) false (WJ os) #[(.int .i64 0),(.int .i64 0),(.slice none 0 0),(.slice none 0 0),(.int .i64 0),(.slice none 0 0)] 8 rfl aA aA aA aA aA (ag3 os _)) ?_
 intro W base args ds gs before Wb hW alv agh hL _
 obtain⟨el,hG⟩:=adD hL
 have Dm: ∀(j:Nat) t v,Tryz.f4.params[j]? =some t->args[j]? =some v->Value.okWide Tryz.prog W .any base t v:=Wb
 have hW':=hW
 obtain⟨p,q,Ud,hV,rfl,hfz,rQ⟩:=hW
 have hA:DataW.TrodAll enc Tryz.prog W 0 (λ_=>true) true Tryz.f4.params.toList args.toList ds p:=Ud
 rw[Tryz.params4] at hA Dm
 obtain⟨v0,vs0,d0,ds0,p0,q0,alr,rfl,rfl,h0,r0⟩:=trodAll_cons hA
 obtain⟨v1,vs1,d1,ds1,p1,q1,rfl,rfl,rfl,h1,r1⟩:=trodAll_cons r0
 obtain⟨v2,vs2,d2,ds2,p2,q2,rfl,rfl,rfl,h2,r2⟩:=trodAll_cons r1
 obtain⟨v3,vs3,d3,ds3,p3,q3,rfl,rfl,rfl,h3,r3⟩:=trodAll_cons r2
 obtain⟨v4,vs4,d4,ds4,p4,q4,rfl,rfl,rfl,h4,r4⟩:=trodAll_cons r3
 obtain⟨v5,vs5,d5,ds5,p5,q5,rfl,rfl,rfl,h5,r5⟩:=trodAll_cons r4
 obtain⟨rfl,rfl,rfl⟩:=trodAll_nil r5
 obtain rfl:args= #[v0,v1,v2,v3,v4,v5]:=by cases args;simp_all
 obtain⟨rfl,rfl⟩:=trodVars_none hV
 obtain⟨a0,rfl,rfl,rfl,w0⟩:=open_int Tryz.underlying3 (Dm 0 3 v0 rfl rfl) h0
 obtain⟨a1,rfl,rfl,rfl,w1⟩:=open_int Tryz.underlying3 (Dm 1 3 v1 rfl rfl) h1
 obtain⟨a2,alH,cap2,rfl⟩:=okWide_slice Tryz.underlying22 (Dm 2 22 v2 rfl rfl)
 have k2:=h2
 have lt2: ∀x∈p2,x.block<W.heap.size:=by obtain⟨m,hm⟩:=k2;exact DataW.trod_lt m _ _ _ hm
 obtain⟨fu2,hf2⟩:=h2
 obtain⟨b2,n2,x2,Vw,sr2,cp2,gd2,ml2⟩:=Qm Tryz.underlying22 (aia Tryz.underlying5 aA) hf2
 simp only[Value.cells,List.cons.injEq,Value.slice.injEq,and_true] at Vw
 obtain⟨rfl,rfl,rfl⟩:=Vw
 obtain⟨a3,alI,aln,rfl⟩:=okWide_slice Tryz.underlying23 (Dm 3 23 v3 rfl rfl)
 have k3:=h3
 have lt3: ∀x∈p3,x.block<W.heap.size:=by obtain⟨m,hm⟩:=k3;exact DataW.trod_lt m _ _ _ hm
 obtain⟨fu3,hf3⟩:=h3
 obtain⟨b3,n3,x3,Vx,sr3,cp3,gd3,ml3⟩:=Qm Tryz.underlying23 ah_ hf3
 simp only[Value.cells,List.cons.injEq,Value.slice.injEq,and_true] at Vx
 obtain⟨rfl,rfl,rfl⟩:=Vx
 obtain⟨a4,rfl,rfl,rfl,w4⟩:=open_int Tryz.underlying3 (Dm 4 3 v4 rfl rfl) h4
 obtain⟨a5,alJ,alo,rfl⟩:=okWide_slice Tryz.underlying24 (Dm 5 24 v5 rfl rfl)
 have k5:=h5
 have lt5: ∀x∈p5,x.block<W.heap.size:=by obtain⟨m,hm⟩:=k5;exact DataW.trod_lt m _ _ _ hm
 obtain⟨fu5,hf5⟩:=h5
 obtain⟨b5,n5,x5,Vy,sr5,cp5,gd5,ml5⟩:=Qm Tryz.underlying24 (ah' Tryz.underlying3 aA) hf5
 simp only[Value.cells,List.cons.injEq,Value.slice.injEq,and_true] at Vy
 obtain⟨rfl,rfl,rfl⟩:=Vy
 clear Ud Wb agh
 have pu:oe.f a0 a1 x2 x3 a4 x5=some true:=Z0 a0 a1 x2 x3 a4 x5 (wf_i64 w0) (wf_i64 w1) gd2 gd3 (wf_i64 w4) gd5 ml2 ml3 ml5
 refine(aji W (oe.c (F:=ub W) pu hG sr2 cp2 sr3 cp3 sr5 cp5)).mono λe W' ⟨he,Ki⟩=>?_
 subst he
 exact⟨_,rfl,_,_,_,[],_,[],hW',trodAll_mk1 (shut_bool Tryz.underlying4 _),(trodAll_cons_mk (shut_int Tryz.underlying3 w0) (trodAll_cons_mk (shut_int Tryz.underlying3 w1) (trodAll_cons_mk (Below.trod laidOut aA (of_decide_eq_true aA) k2 Ki lt2) (trodAll_cons_mk (Below.trod laidOut aA (of_decide_eq_true aA) k3 Ki lt3) (trodAll_cons_mk (shut_int Tryz.underlying3 w4) (trodAll_cons_mk (Below.trod laidOut aA (of_decide_eq_true aA) k5 Ki lt5) trodAll_mk0)))))),rfl,Ki.frame _,λh=>by cases h⟩
theorem ja {a b:Bool} (ha:a=true) (hb:b=true):(a&&b)=true:=by rw[ha,hb];rfl
theorem j1:(laidOutB Tryz.pinned.checked.prog)=true:=aA
theorem j2:(mapsRowed Tryz.pinned.checked.prog)=true:=aA
theorem j9:(Rows.topWaysRow.inPlace==Tryz.pinned.checked.prog.inPlace 4)=true:=aA
theorem j10:(Rows.topWaysRow.unfollowed==Tryz.pinned.checked.prog.unfollowed 4)=true:=aA
theorem j11:(Rows.topWaysRow.recurses==Tryz.pinned.checked.prog.recurses 4)=true:=aA
theorem j12:(Rows.topWaysRow.named==Tryz.pinned.checked.prog.varsNamed 4)=true:=aA
theorem j24:(Tryz.pinned.checked.prog.stopsHeard)=true:=aA
theorem j25:(Tryz.pinned.checked.prog.mayEnter)=true:=aA
theorem j26:(Rows.topWaysRow.lifted==Tryz.pinned.checked.prog.liftsFinal)=true:=aA
theorem j27:(Tryz.pinned.checked.prog.make==some Rows.topWaysRow.make)=true:=aA
theorem closed:joinedFacts Tryz.pinned.checked.prog 4 Tryz.f4 Rows.topWaysSpec Rows.topWaysRow=true:=(ja (ja (ja (ja (ja (ja (ja (ja (ja (ja (ja (ja (ja (ja (ja (ja (ja (ja (ja (ja (ja (ja (ja (ja (ja (ja (ja (ja (ja (ja (ja aA j1) j2) aA) aA) aA) aA) aA) aA) j9) j10) j11) j12) aA) aA) aA) aA) aA) aA) aA) aA) aA) aA) aA) j24) j25) j26) j27) aA) aA) aA) aA)
theorem over:Rows.topWaysRow.holds Tryz.pinned (OpenSpec.ofChange Rows.topWaysSpec):=
 OpenClaim.holds_of_wide 4 Tryz.f4 rfl rfl rfl rfl rfl rfl rfl ⟨rfl,rfl,rfl,rfl,rfl⟩ rfl rfl rfl rfl rfl aA Tryz.func4 closed
  (of_decide_eq_true aA) (by unfold Func.isWrapper;first |(rw[if_pos (by decide+kernel)];kernel_rfl) |(rw[if_neg (by decide+kernel)];exact⟨rfl,rfl⟩))
  (λos started H enc _=>lifted os started H enc)
theorem w1:Rows.topWaysRow.wfByText (OpenSpec.ofChange Rows.topWaysSpec)=true:=aA
theorem w2 : Tryz.pinned.checked.prog.mainIs = some (true, ("da8cad8b8c14ce14b521535589a95d9f7a8b8134b671f9781e1fbf64c3478581" : String).toList) := by kernel_rfl
theorem w3:true=Tryz.pinned.checked.prog.looks []:=aA
theorem w4:false=Rows.topWaysRow.goesBy Tryz.pinned.checked.prog:=aA
theorem w5 : Tryz.prog.funcNamed "herdsman/herdsmantop.TopWays" = some 4 := by kernel_rfl
theorem card:Rows.TopWaysCardSaid:=
 Claim7.holds_tied_plain_at .later [] [.handle, .sentinel, .sentinel, .sentinel, .sentinel, .sentinel, .sentinel] true (true, "da8cad8b8c14ce14b521535589a95d9f7a8b8134b671f9781e1fbf64c3478581") true over (fun _ h => by cases h) w1 (fun _ h => by cases h) topWays_row_tie rfl ⟨rfl, rfl⟩ w2 rfl
  (λf fn hf hfn=>by
    obtain rfl:f=4:=Option.some.inj (w5.symm.trans hf) |>.symm
    obtain rfl:fn=Tryz.f4:=(Option.some.inj (Tryz.func4.symm.trans hfn)).symm
    exact⟨w3,λj t ht=>by
     have tc:(Tryz.f4.params.toList.all λt=>!Tryz.prog.wantsStandIn t)=true:=aA
     have hm:t∈Tryz.f4.params.toList:=Array.mem_toList_iff.2 (Array.mem_of_getElem? ht)
     have:=List.all_eq_true.1 tc t hm
     show Tryz.prog.wantsStandIn t=false
     simpa using this⟩)
  w4
end Go.Proofs.YthodkonhneebbaaGreatDoor.topWays
namespace Go.Proofs.YthodkonhneebbaaGreatDoor
theorem topWays_holds:Rows.TopWaysCardSaid:=topWays.card
end Go.Proofs.YthodkonhneebbaaGreatDoor
