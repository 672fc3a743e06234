/- Part of the proof. No condition. -/
import Derived.Test.YthodkonhneebbaaGreatDoorRows
import Derived.WalkKit
import Derived.ProofKit
import Derived.OpenShut
import Derived.ShutString
import Derived.ChangeOld
import Derived.Below
import Derived.SizedLaws
import Derived.ChangeSlices
import Derived.Test.YthodkonhneebbaaGreatDoorCards
import Derived.Test.YthodkonhneebbaaGreatDoorTie
import Derived.SevenTiedAt
import Derived.Test.YthodkonhneebbaaGreatDoorKW13
import Derived.Test.YthodkonhneebbaaGreatDoorKW18
import Derived.Test.YthodkonhneebbaaGreatDoorKWLaid
namespace Go.Proofs.YthodkonhneebbaaGreatDoor.topFewest
open Go.ChangeShapes Go.WideShapes Go.ChangeAt Go.RowKit Go.Hx
open Go.ChangeMaps (open_string shut_string)
set_option linter.unusedVariables false
theorem own:ownKnob Tryz.prog.godebug=none:=az
theorem laidOut:laidOutB Tryz.prog=true:=az
theorem afL {α:Type} {cs:List α} (h:cs.length=3): ∃c0 c1 c2,cs=[c0,c1,c2]:=by
 match cs,h with
 |[c0,c1,c2],_=>exact⟨c0,c1,c2,rfl⟩
theorem agG:Lv Tryz.prog 97 GQ (λx=>(xi x.Kind/\xi x.A/\xi x.B)):=by
 refine⟨by kernel_rfl,λenc w base spare held n cs y h=>?_⟩
 obtain⟨xs,m,_,_,hl,hlen,hf⟩:=DataW.trod_struct Tryz.underlying97 h
 have hc:Tryz.prog.cellsOf 97=3:=az
 rw[hc] at hl
 obtain⟨c0,c1,c2,rfl⟩:=afL hl
 obtain⟨y0,hy0⟩: ∃y,xs[0]? =some y:=⟨xs[0]'(by rw[hlen];exact Nat.le_of_ble_eq_true rfl),List.getElem?_eq_getElem _⟩
 have f0:=(hf 0 _ rfl).trans hy0
 have e0:Tryz.prog.cellsOf 3=1:=az
 obtain⟨n0,Gq,_,wn0⟩:=DataW.trod_int Tryz.underlying3 f0
 have Ci:[c0]=[.int .i64 n0]:=by
  rw[<-Gq];show _=List.take (Tryz.prog.cellsOf 3) _;rw[e0];rfl
 obtain rfl:=(List.cons.inj Ci).1
 obtain⟨y1,hy1⟩: ∃y,xs[1]? =some y:=⟨xs[1]'(by rw[hlen];exact Nat.le_of_ble_eq_true rfl),List.getElem?_eq_getElem _⟩
 have f1:=(hf 1 _ rfl).trans hy1
 have e1:Tryz.prog.cellsOf 3=1:=az
 obtain⟨n1,hn1,_,wn1⟩:=DataW.trod_int Tryz.underlying3 f1
 have NO:[c1]=[.int .i64 n1]:=by
  rw[<-hn1];show _=List.take (Tryz.prog.cellsOf 3) _;rw[e1];rfl
 obtain rfl:=(List.cons.inj NO).1
 obtain⟨y2,Uz⟩: ∃y,xs[2]? =some y:=⟨xs[2]'(by rw[hlen];exact Nat.le_of_ble_eq_true rfl),List.getElem?_eq_getElem _⟩
 have f2:=(hf 2 _ rfl).trans Uz
 have e2:Tryz.prog.cellsOf 3=1:=az
 obtain⟨n2,JV,_,wn2⟩:=DataW.trod_int Tryz.underlying3 f2
 have NP:[c2]=[.int .i64 n2]:=by
  rw[<-JV];show _=List.take (Tryz.prog.cellsOf 3) _;rw[e2];rfl
 obtain rfl:=(List.cons.inj NP).1
 exact⟨⟨n0,n1,n2⟩,rfl,⟨wf_i64 wn0,wf_i64 wn1,wf_i64 wn2⟩⟩
set_option maxRecDepth 100000 in
set_option maxHeartbeats 1000000 in
theorem lifted (os:Os) (started:os.Started) (H:Type) (enc:TypeId×Value->H):
 ReturnsInHanded {} Tryz.checked os 6 .any (λw args=>(Rows.topFewestSpec.pre enc Tryz.prog Tryz.f6 Rows.topFewestRow.domain false w args/\laidMetH Tryz.prog Cu w)/\sizedMet enc Tryz.prog Tryz.f6 (OpenSpec.ofChange Rows.topFewestSpec) false w args) (Rows.topFewestSpec.post enc Tryz.prog Tryz.f6 false true false false):=by
 refine returnsInHanded_of_change_and (C:=Tryz.checked) (X:=λw _=>laidMetH Tryz.prog Cu w) (λ_ _ _ hh h=>h.of_heap hh) own started az Tryz.func6
  (ChangeSpec.witness_at (enc:=enc) (C:=Tryz.checked) (os:=os) (X:=λw _=>laidMetH Tryz.prog Cu w) false (UY os) #[(.int .i64 0),(.int .i64 0),(.slice none 0 0),(.slice none 0 0)] 8 rfl az az az az az (afv os _)) ?_
 intro W base args ds gs before Ut hW ajO aeI hL _
 obtain⟨el,hG⟩:=ab1 hL
 have GD: ∀(j:Nat) t v,Tryz.f6.params[j]? =some t->args[j]? =some v->Value.okWide Tryz.prog W .any base t v:=Ut
 have hW':=hW
 obtain⟨p,q,Sn,hV,rfl,hfz,pw⟩:=hW
 have hA:DataW.TrodAll enc Tryz.prog W 0 (λ_=>true) true Tryz.f6.params.toList args.toList ds p:=Sn
 rw[Tryz.params6] at hA GD
 obtain⟨v0,vs0,d0,ds0,p0,q0,ajM,rfl,rfl,h0,r0⟩:=trodAll_cons hA
 obtain⟨v1,vs1,d1,ds1,p1,q1,rfl,rfl,rfl,h1,r1⟩:=trodAll_cons r0
 obtain⟨v2,vs2,d2,ds2,p2,q2,rfl,rfl,rfl,h2,r2⟩:=trodAll_cons r1
 obtain⟨v3,vs3,d3,ds3,p3,q3,rfl,rfl,rfl,h3,r3⟩:=trodAll_cons r2
 obtain⟨rfl,rfl,rfl⟩:=trodAll_nil r3
 obtain rfl:args= #[v0,v1,v2,v3]:=by cases args;simp_all
 obtain⟨rfl,rfl⟩:=trodVars_none hV
 obtain⟨a0,rfl,rfl,rfl,w0⟩:=open_int Tryz.underlying3 (GD 0 3 v0 rfl rfl) h0
 obtain⟨a1,rfl,rfl,rfl,w1⟩:=open_int Tryz.underlying3 (GD 1 3 v1 rfl rfl) h1
 obtain⟨a2,aj0,cap2,rfl⟩:=okWide_slice Tryz.underlying22 (GD 2 22 v2 rfl rfl)
 have k2:=h2
 have lt2: ∀x∈p2,x.block<W.heap.size:=by obtain⟨m,hm⟩:=k2;exact DataW.trod_lt m _ _ _ hm
 obtain⟨fu2,D_⟩:=h2
 obtain⟨b2,n2,x2,TO,sr2,cp2,gd2,ml2⟩:=Vu Tryz.underlying22 (agH Tryz.underlying5 az) D_
 simp only[Value.cells,List.cons.injEq,Value.slice.injEq,and_true] at TO
 obtain⟨rfl,rfl,rfl⟩:=TO
 obtain⟨a3,aj1,ajJ,rfl⟩:=okWide_slice Tryz.underlying23 (GD 3 23 v3 rfl rfl)
 have k3:=h3
 have lt3: ∀x∈p3,x.block<W.heap.size:=by obtain⟨m,hm⟩:=k3;exact DataW.trod_lt m _ _ _ hm
 obtain⟨fu3,hf3⟩:=h3
 obtain⟨b3,n3,x3,TP,sr3,cp3,gd3,ml3⟩:=Vu Tryz.underlying23 agG hf3
 simp only[Value.cells,List.cons.injEq,Value.slice.injEq,and_true] at TP
 obtain⟨rfl,rfl,rfl⟩:=TP
 clear Sn Ut aeI
 have pu:ni.f a0 a1 x2 x3=some true:=Yc a0 a1 x2 x3 (wf_i64 w0) (wf_i64 w1) gd2 gd3 ml2 ml3
 refine(ahM W (ni.c (F:=sv W) pu hG sr2 cp2 sr3 cp3)).mono λe W' ⟨he,L3⟩=>?_
 subst he
 exact⟨_,rfl,_,_,_,[],_,[],hW',trodAll_mk1 (shut_bool Tryz.underlying4 _),(trodAll_cons_mk (shut_int Tryz.underlying3 w0) (trodAll_cons_mk (shut_int Tryz.underlying3 w1) (trodAll_cons_mk (Below.trod laidOut az (of_decide_eq_true az) k2 L3 lt2) (trodAll_cons_mk (Below.trod laidOut az (of_decide_eq_true az) k3 L3 lt3) trodAll_mk0)))),rfl,L3.frame _,λh=>by cases h⟩
theorem iM {a b:Bool} (ha:a=true) (hb:b=true):(a&&b)=true:=by rw[ha,hb];rfl
theorem j1:(laidOutB Tryz.pinned.checked.prog)=true:=az
theorem j2:(mapsRowed Tryz.pinned.checked.prog)=true:=az
theorem j9:(Rows.topFewestRow.inPlace==Tryz.pinned.checked.prog.inPlace 6)=true:=az
theorem j10:(Rows.topFewestRow.unfollowed==Tryz.pinned.checked.prog.unfollowed 6)=true:=az
theorem j11:(Rows.topFewestRow.recurses==Tryz.pinned.checked.prog.recurses 6)=true:=az
theorem j12:(Rows.topFewestRow.named==Tryz.pinned.checked.prog.varsNamed 6)=true:=az
theorem j24:(Tryz.pinned.checked.prog.stopsHeard)=true:=az
theorem j25:(Tryz.pinned.checked.prog.mayEnter)=true:=az
theorem j26:(Rows.topFewestRow.lifted==Tryz.pinned.checked.prog.liftsFinal)=true:=az
theorem j27:(Tryz.pinned.checked.prog.make==some Rows.topFewestRow.make)=true:=az
theorem closed:joinedFacts Tryz.pinned.checked.prog 6 Tryz.f6 Rows.topFewestSpec Rows.topFewestRow=true:=(iM (iM (iM (iM (iM (iM (iM (iM (iM (iM (iM (iM (iM (iM (iM (iM (iM (iM (iM (iM (iM (iM (iM (iM (iM (iM (iM (iM (iM (iM (iM az j1) j2) az) az) az) az) az) az) j9) j10) j11) j12) az) az) az) az) az) az) az) az) az) az) az) j24) j25) j26) j27) az) az) az) az)
theorem over:Rows.topFewestRow.holds Tryz.pinned (OpenSpec.ofChange Rows.topFewestSpec):=
 OpenClaim.holds_of_wide 6 Tryz.f6 rfl rfl rfl rfl rfl rfl rfl ⟨rfl,rfl,rfl,rfl,rfl⟩ rfl rfl rfl rfl rfl az Tryz.func6 closed
  (of_decide_eq_true az) (by unfold Func.isWrapper;first |(rw[if_pos (by decide+kernel)];kernel_rfl) |(rw[if_neg (by decide+kernel)];exact⟨rfl,rfl⟩))
  (λos started H enc _=>lifted os started H enc)
theorem w1:Rows.topFewestRow.wfByText (OpenSpec.ofChange Rows.topFewestSpec)=true:=az
theorem w2 : Tryz.pinned.checked.prog.mainIs = some (true, ("da8cad8b8c14ce14b521535589a95d9f7a8b8134b671f9781e1fbf64c3478581" : String).toList) := by kernel_rfl
theorem w3:true=Tryz.pinned.checked.prog.looks []:=az
theorem w4:false=Rows.topFewestRow.goesBy Tryz.pinned.checked.prog:=az
theorem w5 : Tryz.prog.funcNamed "herdsman/herdsmantop.TopFewest" = some 6 := by kernel_rfl
theorem card:Rows.TopFewestCardSaid:=
 Claim7.holds_tied_plain_at .later [] [.handle, .sentinel, .sentinel, .sentinel, .sentinel, .sentinel, .sentinel] true (true, "da8cad8b8c14ce14b521535589a95d9f7a8b8134b671f9781e1fbf64c3478581") true over (fun _ h => by cases h) w1 (fun _ h => by cases h) topFewest_row_tie rfl ⟨rfl, rfl⟩ w2 rfl
  (λf fn hf hfn=>by
    obtain rfl:f=6:=Option.some.inj (w5.symm.trans hf) |>.symm
    obtain rfl:fn=Tryz.f6:=(Option.some.inj (Tryz.func6.symm.trans hfn)).symm
    exact⟨w3,λj t ht=>by
     have tY:(Tryz.f6.params.toList.all λt=>!Tryz.prog.wantsStandIn t)=true:=az
     have hm:t∈Tryz.f6.params.toList:=Array.mem_toList_iff.2 (Array.mem_of_getElem? ht)
     have:=List.all_eq_true.1 tY t hm
     show Tryz.prog.wantsStandIn t=false
     simpa using this⟩)
  w4
end Go.Proofs.YthodkonhneebbaaGreatDoor.topFewest
namespace Go.Proofs.YthodkonhneebbaaGreatDoor
theorem topFewest_holds:Rows.TopFewestCardSaid:=topFewest.card
end Go.Proofs.YthodkonhneebbaaGreatDoor
