/- Part of the proof. No condition. -/
import Derived.Test.YthodkonhneebbaaGreatDoorRows
import Derived.WalkKit
import Derived.ProofKit
import Derived.OpenShut
import Derived.ShutString
import Derived.ChangeOld
import Derived.Below
import Derived.SizedLaws
import Derived.ChangeSlices
import Derived.Test.YthodkonhneebbaaGreatDoorCards
import Derived.Test.YthodkonhneebbaaGreatDoorTie
import Derived.SevenTiedAt
import Derived.Test.YthodkonhneebbaaGreatDoorKS13
import Derived.Test.YthodkonhneebbaaGreatDoorKS18
import Derived.Test.YthodkonhneebbaaGreatDoorKSLaid
namespace Go.Proofs.YthodkonhneebbaaGreatDoor.topSeen
open Go.ChangeShapes Go.WideShapes Go.ChangeAt Go.RowKit Go.Hx
open Go.ChangeMaps (open_string shut_string)
set_option linter.unusedVariables false
theorem own:ownKnob Tryz.prog.godebug=none:=ay
theorem laidOut:laidOutB Tryz.prog=true:=ay
theorem agh {α:Type} {cs:List α} (h:cs.length=3): ∃c0 c1 c2,cs=[c0,c1,c2]:=by
 match cs,h with
 |[c0,c1,c2],_=>exact⟨c0,c1,c2,rfl⟩
theorem ahd:I' Tryz.prog 97 Ha (λx=>(uS x.Kind/\uS x.A/\uS x.B)):=by
 refine⟨by kernel_rfl,λenc w base spare held n cs y h=>?_⟩
 obtain⟨xs,m,_,_,hl,hlen,hf⟩:=DataW.trod_struct Tryz.underlying97 h
 have hc:Tryz.prog.cellsOf 97=3:=ay
 rw[hc] at hl
 obtain⟨c0,c1,c2,rfl⟩:=agh hl
 obtain⟨y0,hy0⟩: ∃y,xs[0]? =some y:=⟨xs[0]'(by rw[hlen];exact Nat.le_of_ble_eq_true rfl),List.getElem?_eq_getElem _⟩
 have f0:=(hf 0 _ rfl).trans hy0
 have e0:Tryz.prog.cellsOf 3=1:=ay
 obtain⟨n0,GN,_,wn0⟩:=DataW.trod_int Tryz.underlying3 f0
 have Cy:[c0]=[.int .i64 n0]:=by
  rw[<-GN];show _=List.take (Tryz.prog.cellsOf 3) _;rw[e0];rfl
 obtain rfl:=(List.cons.inj Cy).1
 obtain⟨y1,hy1⟩: ∃y,xs[1]? =some y:=⟨xs[1]'(by rw[hlen];exact Nat.le_of_ble_eq_true rfl),List.getElem?_eq_getElem _⟩
 have f1:=(hf 1 _ rfl).trans hy1
 have e1:Tryz.prog.cellsOf 3=1:=ay
 obtain⟨n1,hn1,_,wn1⟩:=DataW.trod_int Tryz.underlying3 f1
 have Oa:[c1]=[.int .i64 n1]:=by
  rw[<-hn1];show _=List.take (Tryz.prog.cellsOf 3) _;rw[e1];rfl
 obtain rfl:=(List.cons.inj Oa).1
 obtain⟨y2,UY⟩: ∃y,xs[2]? =some y:=⟨xs[2]'(by rw[hlen];exact Nat.le_of_ble_eq_true rfl),List.getElem?_eq_getElem _⟩
 have f2:=(hf 2 _ rfl).trans UY
 have e2:Tryz.prog.cellsOf 3=1:=ay
 obtain⟨n2,Kq,_,wn2⟩:=DataW.trod_int Tryz.underlying3 f2
 have hm2:[c2]=[.int .i64 n2]:=by
  rw[<-Kq];show _=List.take (Tryz.prog.cellsOf 3) _;rw[e2];rfl
 obtain rfl:=(List.cons.inj hm2).1
 exact⟨⟨n0,n1,n2⟩,rfl,⟨wf_i64 wn0,wf_i64 wn1,wf_i64 wn2⟩⟩
set_option maxRecDepth 100000 in
set_option maxHeartbeats 1000000 in
theorem lifted (os:Os) (started:os.Started) (H:Type) (enc:TypeId×Value->H):
 ReturnsInHanded {} Tryz.checked os 8 .any (λw args=>(Rows.topSeenSpec.pre enc Tryz.prog Tryz.f8 Rows.topSeenRow.domain false w args/\laidMetH Tryz.prog CN w)/\sizedMet enc Tryz.prog Tryz.f8 (OpenSpec.ofChange Rows.topSeenSpec) false w args) (Rows.topSeenSpec.post enc Tryz.prog Tryz.f8 false true false false):=by
 refine returnsInHanded_of_change_and (C:=Tryz.checked) (X:=λw _=>laidMetH Tryz.prog CN w) (λ_ _ _ hh h=>h.of_heap hh) own started ay Tryz.func8
  (ChangeSpec.witness_at (enc:=enc) (C:=Tryz.checked) (os:=os) (X:=λw _=>laidMetH Tryz.prog CN w) false (Vj os) #[(.int .i64 0),(.int .i64 0),(.int .i64 0),(.int .i64 0),(.slice none 0 0),(.slice none 0 0),(.slice none 0 0)] 8 rfl ay ay ay ay ay (af2 os _)) ?_
 intro W base args ds gs before UQ hW akq afc hL _
 obtain⟨el,hG⟩:=aco hL
 have AZ: ∀(j:Nat) t v,Tryz.f8.params[j]? =some t->args[j]? =some v->Value.okWide Tryz.prog W .any base t v:=UQ
 have hW':=hW
 obtain⟨p,q,SN,hV,rfl,hfz,qS⟩:=hW
 have hA:DataW.TrodAll enc Tryz.prog W 0 (λ_=>true) true Tryz.f8.params.toList args.toList ds p:=SN
 rw[Tryz.params8] at hA AZ
 obtain⟨v0,vs0,d0,ds0,p0,q0,ako,rfl,rfl,h0,r0⟩:=trodAll_cons hA
 obtain⟨v1,vs1,d1,ds1,p1,q1,rfl,rfl,rfl,h1,r1⟩:=trodAll_cons r0
 obtain⟨v2,vs2,d2,ds2,p2,q2,rfl,rfl,rfl,h2,r2⟩:=trodAll_cons r1
 obtain⟨v3,vs3,d3,ds3,p3,q3,rfl,rfl,rfl,h3,r3⟩:=trodAll_cons r2
 obtain⟨v4,vs4,d4,ds4,p4,q4,rfl,rfl,rfl,h4,r4⟩:=trodAll_cons r3
 obtain⟨v5,vs5,d5,ds5,p5,q5,rfl,rfl,rfl,h5,r5⟩:=trodAll_cons r4
 obtain⟨v6,vs6,d6,ds6,p6,q6,rfl,rfl,rfl,h6,r6⟩:=trodAll_cons r5
 obtain⟨rfl,rfl,rfl⟩:=trodAll_nil r6
 obtain rfl:args= #[v0,v1,v2,v3,v4,v5,v6]:=by cases args;simp_all
 obtain⟨rfl,rfl⟩:=trodVars_none hV
 obtain⟨a0,rfl,rfl,rfl,w0⟩:=open_int Tryz.underlying3 (AZ 0 3 v0 rfl rfl) h0
 obtain⟨a1,rfl,rfl,rfl,w1⟩:=open_int Tryz.underlying3 (AZ 1 3 v1 rfl rfl) h1
 obtain⟨a2,rfl,rfl,rfl,w2⟩:=open_int Tryz.underlying3 (AZ 2 3 v2 rfl rfl) h2
 obtain⟨a3,rfl,rfl,rfl,w3⟩:=open_int Tryz.underlying3 (AZ 3 3 v3 rfl rfl) h3
 obtain⟨a4,akC,akj,rfl⟩:=okWide_slice Tryz.underlying22 (AZ 4 22 v4 rfl rfl)
 have k4:=h4
 have lt4: ∀x∈p4,x.block<W.heap.size:=by obtain⟨m,hm⟩:=k4;exact DataW.trod_lt m _ _ _ hm
 obtain⟨fu4,hf4⟩:=h4
 obtain⟨b4,n4,x4,Ui,sr4,cp4,gd4,ml4⟩:=Pg Tryz.underlying22 (ahf Tryz.underlying5 ay) hf4
 simp only[Value.cells,List.cons.injEq,Value.slice.injEq,and_true] at Ui
 obtain⟨rfl,rfl,rfl⟩:=Ui
 obtain⟨a5,akD,akk,rfl⟩:=okWide_slice Tryz.underlying23 (AZ 5 23 v5 rfl rfl)
 have k5:=h5
 have lt5: ∀x∈p5,x.block<W.heap.size:=by obtain⟨m,hm⟩:=k5;exact DataW.trod_lt m _ _ _ hm
 obtain⟨fu5,hf5⟩:=h5
 obtain⟨b5,n5,x5,Uj,sr5,cp5,gd5,ml5⟩:=Pg Tryz.underlying23 ahd hf5
 simp only[Value.cells,List.cons.injEq,Value.slice.injEq,and_true] at Uj
 obtain⟨rfl,rfl,rfl⟩:=Uj
 obtain⟨a6,akE,akl,rfl⟩:=okWide_slice Tryz.underlying43 (AZ 6 43 v6 rfl rfl)
 have k6:=h6
 have lt6: ∀x∈p6,x.block<W.heap.size:=by obtain⟨m,hm⟩:=k6;exact DataW.trod_lt m _ _ _ hm
 obtain⟨fu6,hf6⟩:=h6
 obtain⟨b6,n6,x6,Uk,sr6,cp6,gd6,ml6⟩:=Pg Tryz.underlying43 (ahe Tryz.underlying4 ay) hf6
 simp only[Value.cells,List.cons.injEq,Value.slice.injEq,and_true] at Uk
 obtain⟨rfl,rfl,rfl⟩:=Uk
 clear SN UQ afc
 have pu:oV.f a0 a1 a2 a3 x4 x5 x6=some true:=YC a0 a1 a2 a3 x4 x5 x6 (wf_i64 w0) (wf_i64 w1) (wf_i64 w2) (wf_i64 w3) gd4 gd5 ml4 ml5 ml6
 refine(aij W (oV.c (F:=sN W) pu hG sr4 cp4 sr5 cp5 sr6 cp6)).mono λe W' ⟨he,Jt⟩=>?_
 subst he
 exact⟨_,rfl,_,_,_,[],_,[],hW',trodAll_mk1 (shut_bool Tryz.underlying4 _),(trodAll_cons_mk (shut_int Tryz.underlying3 w0) (trodAll_cons_mk (shut_int Tryz.underlying3 w1) (trodAll_cons_mk (shut_int Tryz.underlying3 w2) (trodAll_cons_mk (shut_int Tryz.underlying3 w3) (trodAll_cons_mk (Below.trod laidOut ay (of_decide_eq_true ay) k4 Jt lt4) (trodAll_cons_mk (Below.trod laidOut ay (of_decide_eq_true ay) k5 Jt lt5) (trodAll_cons_mk (Below.trod laidOut ay (of_decide_eq_true ay) k6 Jt lt6) trodAll_mk0))))))),rfl,Jt.frame _,λh=>by cases h⟩
theorem iZ {a b:Bool} (ha:a=true) (hb:b=true):(a&&b)=true:=by rw[ha,hb];rfl
theorem j1:(laidOutB Tryz.pinned.checked.prog)=true:=ay
theorem j2:(mapsRowed Tryz.pinned.checked.prog)=true:=ay
theorem j9:(Rows.topSeenRow.inPlace==Tryz.pinned.checked.prog.inPlace 8)=true:=ay
theorem j10:(Rows.topSeenRow.unfollowed==Tryz.pinned.checked.prog.unfollowed 8)=true:=ay
theorem j11:(Rows.topSeenRow.recurses==Tryz.pinned.checked.prog.recurses 8)=true:=ay
theorem j12:(Rows.topSeenRow.named==Tryz.pinned.checked.prog.varsNamed 8)=true:=ay
theorem j24:(Tryz.pinned.checked.prog.stopsHeard)=true:=ay
theorem j25:(Tryz.pinned.checked.prog.mayEnter)=true:=ay
theorem j26:(Rows.topSeenRow.lifted==Tryz.pinned.checked.prog.liftsFinal)=true:=ay
theorem j27:(Tryz.pinned.checked.prog.make==some Rows.topSeenRow.make)=true:=ay
theorem closed:joinedFacts Tryz.pinned.checked.prog 8 Tryz.f8 Rows.topSeenSpec Rows.topSeenRow=true:=(iZ (iZ (iZ (iZ (iZ (iZ (iZ (iZ (iZ (iZ (iZ (iZ (iZ (iZ (iZ (iZ (iZ (iZ (iZ (iZ (iZ (iZ (iZ (iZ (iZ (iZ (iZ (iZ (iZ (iZ (iZ ay j1) j2) ay) ay) ay) ay) ay) ay) j9) j10) j11) j12) ay) ay) ay) ay) ay) ay) ay) ay) ay) ay) ay) j24) j25) j26) j27) ay) ay) ay) ay)
theorem over:Rows.topSeenRow.holds Tryz.pinned (OpenSpec.ofChange Rows.topSeenSpec):=
 OpenClaim.holds_of_wide 8 Tryz.f8 rfl rfl rfl rfl rfl rfl rfl ⟨rfl,rfl,rfl,rfl,rfl⟩ rfl rfl rfl rfl rfl ay Tryz.func8 closed
  (of_decide_eq_true ay) (by unfold Func.isWrapper;first |(rw[if_pos (by decide+kernel)];kernel_rfl) |(rw[if_neg (by decide+kernel)];exact⟨rfl,rfl⟩))
  (λos started H enc _=>lifted os started H enc)
theorem w1:Rows.topSeenRow.wfByText (OpenSpec.ofChange Rows.topSeenSpec)=true:=ay
theorem w2 : Tryz.pinned.checked.prog.mainIs = some (true, ("da8cad8b8c14ce14b521535589a95d9f7a8b8134b671f9781e1fbf64c3478581" : String).toList) := by kernel_rfl
theorem w3:true=Tryz.pinned.checked.prog.looks []:=ay
theorem w4:false=Rows.topSeenRow.goesBy Tryz.pinned.checked.prog:=ay
theorem w5 : Tryz.prog.funcNamed "herdsman/herdsmantop.TopSeen" = some 8 := by kernel_rfl
theorem card:Rows.TopSeenCardSaid:=
 Claim7.holds_tied_plain_at .later [] [.handle, .sentinel, .sentinel, .sentinel, .sentinel, .sentinel, .sentinel] true (true, "da8cad8b8c14ce14b521535589a95d9f7a8b8134b671f9781e1fbf64c3478581") true over (fun _ h => by cases h) w1 (fun _ h => by cases h) topSeen_row_tie rfl ⟨rfl, rfl⟩ w2 rfl
  (λf fn hf hfn=>by
    obtain rfl:f=8:=Option.some.inj (w5.symm.trans hf) |>.symm
    obtain rfl:fn=Tryz.f8:=(Option.some.inj (Tryz.func8.symm.trans hfn)).symm
    exact⟨w3,λj t ht=>by
     have uJ:(Tryz.f8.params.toList.all λt=>!Tryz.prog.wantsStandIn t)=true:=ay
     have hm:t∈Tryz.f8.params.toList:=Array.mem_toList_iff.2 (Array.mem_of_getElem? ht)
     have:=List.all_eq_true.1 uJ t hm
     show Tryz.prog.wantsStandIn t=false
     simpa using this⟩)
  w4
end Go.Proofs.YthodkonhneebbaaGreatDoor.topSeen
namespace Go.Proofs.YthodkonhneebbaaGreatDoor
theorem topSeen_holds:Rows.TopSeenCardSaid:=topSeen.card
end Go.Proofs.YthodkonhneebbaaGreatDoor
