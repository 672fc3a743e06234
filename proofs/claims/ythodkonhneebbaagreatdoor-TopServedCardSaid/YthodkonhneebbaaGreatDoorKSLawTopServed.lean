/- Part of the proof. No condition. -/
import Derived.Test.YthodkonhneebbaaGreatDoorRows
import Derived.WalkKit
import Derived.ProofKit
import Derived.OpenShut
import Derived.ShutString
import Derived.ChangeOld
import Derived.Below
import Derived.SizedLaws
import Derived.ChangeSlices
import Derived.Test.YthodkonhneebbaaGreatDoorCards
import Derived.Test.YthodkonhneebbaaGreatDoorTie
import Derived.SevenTiedAt
import Derived.Test.YthodkonhneebbaaGreatDoorKS12
import Derived.Test.YthodkonhneebbaaGreatDoorKS17
import Derived.Test.YthodkonhneebbaaGreatDoorKSLaid
namespace Go.Proofs.YthodkonhneebbaaGreatDoor.topServed
open Go.ChangeShapes Go.WideShapes Go.ChangeAt Go.RowKit Go.Hx
open Go.ChangeMaps (open_string shut_string)
set_option linter.unusedVariables false
theorem own:ownKnob Tryz.prog.godebug=none:=aB
theorem laidOut:laidOutB Tryz.prog=true:=aB
theorem afx {α:Type} {cs:List α} (h:cs.length=3): ∃c0 c1 c2,cs=[c0,c1,c2]:=by
 match cs,h with
 |[c0,c1,c2],_=>exact⟨c0,c1,c2,rfl⟩
theorem agq:LQ Tryz.prog 97 EB (λx=>(tZ x.Kind/\tZ x.A/\tZ x.B)):=by
 refine⟨by kernel_rfl,λenc w base spare held n cs y h=>?_⟩
 obtain⟨xs,m,_,_,hl,hlen,hf⟩:=DataW.trod_struct Tryz.underlying97 h
 have hc:Tryz.prog.cellsOf 97=3:=aB
 rw[hc] at hl
 obtain⟨c0,c1,c2,rfl⟩:=afx hl
 obtain⟨y0,hy0⟩: ∃y,xs[0]? =some y:=⟨xs[0]'(by rw[hlen];exact Nat.le_of_ble_eq_true rfl),List.getElem?_eq_getElem _⟩
 have f0:=(hf 0 _ rfl).trans hy0
 have e0:Tryz.prog.cellsOf 3=1:=aB
 obtain⟨n0,A',_,wn0⟩:=DataW.trod_int Tryz.underlying3 f0
 have CD:[c0]=[.int .i64 n0]:=by
  rw[<-A'];show _=List.take (Tryz.prog.cellsOf 3) _;rw[e0];rfl
 obtain rfl:=(List.cons.inj CD).1
 obtain⟨y1,hy1⟩: ∃y,xs[1]? =some y:=⟨xs[1]'(by rw[hlen];exact Nat.le_of_ble_eq_true rfl),List.getElem?_eq_getElem _⟩
 have f1:=(hf 1 _ rfl).trans hy1
 have e1:Tryz.prog.cellsOf 3=1:=aB
 obtain⟨n1,hn1,_,wn1⟩:=DataW.trod_int Tryz.underlying3 f1
 have N4:[c1]=[.int .i64 n1]:=by
  rw[<-hn1];show _=List.take (Tryz.prog.cellsOf 3) _;rw[e1];rfl
 obtain rfl:=(List.cons.inj N4).1
 obtain⟨y2,Ux⟩: ∃y,xs[2]? =some y:=⟨xs[2]'(by rw[hlen];exact Nat.le_of_ble_eq_true rfl),List.getElem?_eq_getElem _⟩
 have f2:=(hf 2 _ rfl).trans Ux
 have e2:Tryz.prog.cellsOf 3=1:=aB
 obtain⟨n2,Kg,_,wn2⟩:=DataW.trod_int Tryz.underlying3 f2
 have hm2:[c2]=[.int .i64 n2]:=by
  rw[<-Kg];show _=List.take (Tryz.prog.cellsOf 3) _;rw[e2];rfl
 obtain rfl:=(List.cons.inj hm2).1
 exact⟨⟨n0,n1,n2⟩,rfl,⟨wf_i64 wn0,wf_i64 wn1,wf_i64 wn2⟩⟩
set_option maxRecDepth 100000 in
set_option maxHeartbeats 1000000 in
theorem lifted (os:Os) (started:os.Started) (H:Type) (enc:TypeId×Value->H):
 ReturnsInHanded {} Tryz.checked os 9 .any (λw args=>(Rows.topServedSpec.pre enc Tryz.prog Tryz.f9 Rows.topServedRow.domain false w args/\laidMetH Tryz.prog CP w)/\sizedMet enc Tryz.prog Tryz.f9 (OpenSpec.ofChange Rows.topServedSpec) false w args) (Rows.topServedSpec.post enc Tryz.prog Tryz.f9 false true false false):=by
 refine returnsInHanded_of_change_and (C:=Tryz.checked) (X:=λw _=>laidMetH Tryz.prog CP w) (λ_ _ _ hh h=>h.of_heap hh) own started aB Tryz.func9
  (ChangeSpec.witness_at (enc:=enc) (C:=Tryz.checked) (os:=os) (X:=λw _=>laidMetH Tryz.prog CP w) false (UU os) #[(.int .i64 0),(.int .i64 0),(.int .i64 0),(.slice none 0 0),(.slice none 0 0),(.int .i64 0),(.int .i64 0)] 8 rfl aB aB aB aB aB (afk os _)) ?_
 intro W base args ds gs before Ur hW ajB aey hL _
 obtain⟨el,hG⟩:=abI hL
 have Bc: ∀(j:Nat) t v,Tryz.f9.params[j]? =some t->args[j]? =some v->Value.okWide Tryz.prog W .any base t v:=Ur
 have hW':=hW
 obtain⟨p,q,Sl,hV,rfl,hfz,tX⟩:=hW
 have hA:DataW.TrodAll enc Tryz.prog W 0 (λ_=>true) true Tryz.f9.params.toList args.toList ds p:=Sl
 rw[Tryz.params9] at hA Bc
 obtain⟨v0,vs0,d0,ds0,p0,q0,ajy,rfl,rfl,h0,r0⟩:=trodAll_cons hA
 obtain⟨v1,vs1,d1,ds1,p1,q1,rfl,rfl,rfl,h1,r1⟩:=trodAll_cons r0
 obtain⟨v2,vs2,d2,ds2,p2,q2,rfl,rfl,rfl,h2,r2⟩:=trodAll_cons r1
 obtain⟨v3,vs3,d3,ds3,p3,q3,rfl,rfl,rfl,h3,r3⟩:=trodAll_cons r2
 obtain⟨v4,vs4,d4,ds4,p4,q4,rfl,rfl,rfl,h4,r4⟩:=trodAll_cons r3
 obtain⟨v5,vs5,d5,ds5,p5,q5,rfl,rfl,rfl,h5,r5⟩:=trodAll_cons r4
 obtain⟨v6,vs6,d6,ds6,p6,q6,rfl,rfl,rfl,h6,r6⟩:=trodAll_cons r5
 obtain⟨rfl,rfl,rfl⟩:=trodAll_nil r6
 obtain rfl:args= #[v0,v1,v2,v3,v4,v5,v6]:=by cases args;simp_all
 obtain⟨rfl,rfl⟩:=trodVars_none hV
 obtain⟨a0,rfl,rfl,rfl,w0⟩:=open_int Tryz.underlying3 (Bc 0 3 v0 rfl rfl) h0
 obtain⟨a1,rfl,rfl,rfl,w1⟩:=open_int Tryz.underlying3 (Bc 1 3 v1 rfl rfl) h1
 obtain⟨a2,rfl,rfl,rfl,w2⟩:=open_int Tryz.underlying3 (Bc 2 3 v2 rfl rfl) h2
 obtain⟨a3,ajI,aju,rfl⟩:=okWide_slice Tryz.underlying22 (Bc 3 22 v3 rfl rfl)
 have k3:=h3
 have lt3: ∀x∈p3,x.block<W.heap.size:=by obtain⟨m,hm⟩:=k3;exact DataW.trod_lt m _ _ _ hm
 obtain⟨fu3,hf3⟩:=h3
 obtain⟨b3,n3,x3,TL,sr3,cp3,gd3,ml3⟩:=Vx Tryz.underlying22 (agr Tryz.underlying5 aB) hf3
 simp only[Value.cells,List.cons.injEq,Value.slice.injEq,and_true] at TL
 obtain⟨rfl,rfl,rfl⟩:=TL
 obtain⟨a4,ajJ,ajv,rfl⟩:=okWide_slice Tryz.underlying23 (Bc 4 23 v4 rfl rfl)
 have k4:=h4
 have lt4: ∀x∈p4,x.block<W.heap.size:=by obtain⟨m,hm⟩:=k4;exact DataW.trod_lt m _ _ _ hm
 obtain⟨fu4,hf4⟩:=h4
 obtain⟨b4,n4,x4,TM,sr4,cp4,gd4,ml4⟩:=Vx Tryz.underlying23 agq hf4
 simp only[Value.cells,List.cons.injEq,Value.slice.injEq,and_true] at TM
 obtain⟨rfl,rfl,rfl⟩:=TM
 obtain⟨a5,rfl,rfl,rfl,w5⟩:=open_int Tryz.underlying3 (Bc 5 3 v5 rfl rfl) h5
 obtain⟨a6,rfl,rfl,rfl,w6⟩:=open_int Tryz.underlying3 (Bc 6 3 v6 rfl rfl) h6
 clear Sl Ur aey
 have pu:pj.f a0 a1 a2 x3 x4 a5 a6=some true:=Yl a0 a1 a2 x3 x4 a5 a6 (wf_i64 w0) (wf_i64 w1) (wf_i64 w2) gd3 gd4 (wf_i64 w5) (wf_i64 w6) ml3 ml4
 refine(ahs W (pj.c (F:=tG W) pu hG sr3 cp3 sr4 cp4)).mono λe W' ⟨he,Mn⟩=>?_
 subst he
 exact⟨_,rfl,_,_,_,[],_,[],hW',trodAll_mk1 (shut_bool Tryz.underlying4 _),(trodAll_cons_mk (shut_int Tryz.underlying3 w0) (trodAll_cons_mk (shut_int Tryz.underlying3 w1) (trodAll_cons_mk (shut_int Tryz.underlying3 w2) (trodAll_cons_mk (Below.trod laidOut aB (of_decide_eq_true aB) k3 Mn lt3) (trodAll_cons_mk (Below.trod laidOut aB (of_decide_eq_true aB) k4 Mn lt4) (trodAll_cons_mk (shut_int Tryz.underlying3 w5) (trodAll_cons_mk (shut_int Tryz.underlying3 w6) trodAll_mk0))))))),rfl,Mn.frame _,λh=>by cases h⟩
theorem iT {a b:Bool} (ha:a=true) (hb:b=true):(a&&b)=true:=by rw[ha,hb];rfl
theorem j1:(laidOutB Tryz.pinned.checked.prog)=true:=aB
theorem j2:(mapsRowed Tryz.pinned.checked.prog)=true:=aB
theorem j9:(Rows.topServedRow.inPlace==Tryz.pinned.checked.prog.inPlace 9)=true:=aB
theorem j10:(Rows.topServedRow.unfollowed==Tryz.pinned.checked.prog.unfollowed 9)=true:=aB
theorem j11:(Rows.topServedRow.recurses==Tryz.pinned.checked.prog.recurses 9)=true:=aB
theorem j12:(Rows.topServedRow.named==Tryz.pinned.checked.prog.varsNamed 9)=true:=aB
theorem j24:(Tryz.pinned.checked.prog.stopsHeard)=true:=aB
theorem j25:(Tryz.pinned.checked.prog.mayEnter)=true:=aB
theorem j26:(Rows.topServedRow.lifted==Tryz.pinned.checked.prog.liftsFinal)=true:=aB
theorem j27:(Tryz.pinned.checked.prog.make==some Rows.topServedRow.make)=true:=aB
theorem closed:joinedFacts Tryz.pinned.checked.prog 9 Tryz.f9 Rows.topServedSpec Rows.topServedRow=true:=(iT (iT (iT (iT (iT (iT (iT (iT (iT (iT (iT (iT (iT (iT (iT (iT (iT (iT (iT (iT (iT (iT (iT (iT (iT (iT (iT (iT (iT (iT (iT aB j1) j2) aB) aB) aB) aB) aB) aB) j9) j10) j11) j12) aB) aB) aB) aB) aB) aB) aB) aB) aB) aB) aB) j24) j25) j26) j27) aB) aB) aB) aB)
theorem over:Rows.topServedRow.holds Tryz.pinned (OpenSpec.ofChange Rows.topServedSpec):=
 OpenClaim.holds_of_wide 9 Tryz.f9 rfl rfl rfl rfl rfl rfl rfl ⟨rfl,rfl,rfl,rfl,rfl⟩ rfl rfl rfl rfl rfl aB Tryz.func9 closed
  (of_decide_eq_true aB) (by unfold Func.isWrapper;first |(rw[if_pos (by decide+kernel)];kernel_rfl) |(rw[if_neg (by decide+kernel)];exact⟨rfl,rfl⟩))
  (λos started H enc _=>lifted os started H enc)
theorem w1:Rows.topServedRow.wfByText (OpenSpec.ofChange Rows.topServedSpec)=true:=aB
theorem w2 : Tryz.pinned.checked.prog.mainIs = some (true, ("da8cad8b8c14ce14b521535589a95d9f7a8b8134b671f9781e1fbf64c3478581" : String).toList) := by kernel_rfl
theorem w3:true=Tryz.pinned.checked.prog.looks []:=aB
theorem w4:false=Rows.topServedRow.goesBy Tryz.pinned.checked.prog:=aB
theorem w5 : Tryz.prog.funcNamed "herdsman/herdsmantop.TopServed" = some 9 := by kernel_rfl
theorem card:Rows.TopServedCardSaid:=
 Claim7.holds_tied_plain_at .later [] [.handle, .sentinel, .sentinel, .sentinel, .sentinel, .sentinel, .sentinel] true (true, "da8cad8b8c14ce14b521535589a95d9f7a8b8134b671f9781e1fbf64c3478581") true over (fun _ h => by cases h) w1 (fun _ h => by cases h) topServed_row_tie rfl ⟨rfl, rfl⟩ w2 rfl
  (λf fn hf hfn=>by
    obtain rfl:f=9:=Option.some.inj (w5.symm.trans hf) |>.symm
    obtain rfl:fn=Tryz.f9:=(Option.some.inj (Tryz.func9.symm.trans hfn)).symm
    exact⟨w3,λj t ht=>by
     have qx:(Tryz.f9.params.toList.all λt=>!Tryz.prog.wantsStandIn t)=true:=aB
     have hm:t∈Tryz.f9.params.toList:=Array.mem_toList_iff.2 (Array.mem_of_getElem? ht)
     have:=List.all_eq_true.1 qx t hm
     show Tryz.prog.wantsStandIn t=false
     simpa using this⟩)
  w4
end Go.Proofs.YthodkonhneebbaaGreatDoor.topServed
namespace Go.Proofs.YthodkonhneebbaaGreatDoor
theorem topServed_holds:Rows.TopServedCardSaid:=topServed.card
end Go.Proofs.YthodkonhneebbaaGreatDoor
