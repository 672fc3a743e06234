/- Part of the proof. No condition. -/
import Derived.Test.YthodkonhneebbaaGreatDoorProg
import Derived.KernelRfl
import Derived.Test.YthodkonhneebbaaGreatDoorKYErrs
import Derived.Test.YthodkonhneebbaaGreatDoorKYHz
namespace Go.Proofs.YthodkonhneebbaaGreatDoor
open Go.Hx
set_option maxRecDepth 100000
set_option linter.unusedSimpArgs false
set_option linter.unusedVariables false
structure p9 where
 Kind:Int
 A:Int
 B:Int
instance :Inhabited p9:=⟨⟨default,default,default⟩⟩
def Fu:Fl p9:=⟨3,λx=>[.int .i64 x.Kind,.int .i64 x.A,.int .i64 x.B],λ_=>rfl,λ_ v h=>by
 simp only[List.mem_cons,List.not_mem_nil,or_false] at h;rcases h with rfl |rfl |rfl<;>rfl,Nat.le_of_ble_eq_true rfl⟩
structure bw where
 key:(Int×Int)
 cX:Int
 aZ:Int
instance :Inhabited bw:=⟨⟨default,default,default⟩⟩
def lh:Fl bw:=⟨4,λx=>[.int .i64 x.key.1,.int .i64 x.key.2,.int .i64 x.cX,.int .i64 x.aZ],λ_=>rfl,λ_ v h=>by
 simp only[List.mem_cons,List.not_mem_nil,or_false] at h;rcases h with rfl |rfl |rfl |rfl<;>rfl,Nat.le_of_ble_eq_true rfl⟩
structure gu where
 k:Int
 aw:(List bw)
 fB:(List ((Int×Int)×Int))
 cO:Int
 dz:Int
instance :Inhabited gu:=⟨⟨default,default,default,default,default⟩⟩
structure a_ where
 Cell:Int
 cY:Int
 Key:Int
instance :Inhabited a_:=⟨⟨default,default,default⟩⟩
def cW:Fl a_:=⟨3,λx=>[.int .i64 x.Cell,.int .i64 x.cY,.int .i64 x.Key],λ_=>rfl,λ_ v h=>by
 simp only[List.mem_cons,List.not_mem_nil,or_false] at h;rcases h with rfl |rfl |rfl<;>rfl,Nat.le_of_ble_eq_true rfl⟩
structure gk where
 fi:(List Int)
 cJ:(List Int)
instance :Inhabited gk:=⟨⟨default,default⟩⟩
structure rh where
 version:Int
 uR:(List a_)
 field:gk
instance :Inhabited rh:=⟨⟨default,default,default⟩⟩
structure gD where
 bK:Int
 bL:Int
 bH:Int
 bG:Int
 bR:Int
 bM:Int
instance :Inhabited gD:=⟨⟨default,default,default,default,default,default⟩⟩
structure jJ where
 keys:gu
 fields:(List rh)
 count:gD
instance :Inhabited jJ:=⟨⟨default,default,default⟩⟩
def FK:Kd rh where
 size:=4
 own:=λx cs H=> ∃a0 n0 H0 a1 n1 H1 a2 n2 H2,ak cW 285 x.uR a0 n0 H0/\ak (Fl.int .i64) 3 x.field.fi a1 n1 H1/\ak (Fl.int .i64) 3 x.field.cJ a2 n2 H2/\cs=[.int .i64 x.version,.slice a0 (List.length x.uR) n0,.slice a1 (List.length x.field.fi) n1,.slice a2 (List.length x.field.cJ) n2]/\H=List.flatten [H0,H1,H2]
 nt:=λx cs H=> ∃(a0:Option Addr) (n0:Nat) (a1:Option Addr) (n1:Nat) (a2:Option Addr) (n2:Nat),(aU cW x.uR a0 H/\List.length x.uR<=n0)/\(aU (Fl.int .i64) x.field.fi a1 H/\List.length x.field.fi<=n1)/\(aU (Fl.int .i64) x.field.cJ a2 H/\List.length x.field.cJ<=n2)/\cs=[.int .i64 x.version,.slice a0 (List.length x.uR) n0,.slice a1 (List.length x.field.fi) n1,.slice a2 (List.length x.field.cJ) n2]
 len:=by
  rintro x cs H ⟨a0,n0,H0,a1,n1,H1,a2,n2,H2,s0,s1,s2,rfl,rfl⟩
  rfl
 plain:=by
  rintro x cs H ⟨a0,n0,H0,a1,n1,H1,a2,n2,H2,s0,s1,s2,rfl,rfl⟩ v hv;simp only[List.mem_cons,List.not_mem_nil,or_false] at hv;rcases hv with rfl |rfl |rfl |rfl<;>rfl
 r:=by
  rintro x cs H ⟨a0,n0,H0,a1,n1,H1,a2,n2,H2,s0,s1,s2,rfl,rfl⟩;exact⟨a0,n0,a1,n1,a2,n2,⟨s0.r.mono (λc hc=>iv (HL:=[H0,H1,H2]) (j:=0) rfl hc),s0.ck⟩,⟨s1.r.mono (λc hc=>iv (HL:=[H0,H1,H2]) (j:=1) rfl hc),s1.ck⟩,⟨s2.r.mono (λc hc=>iv (HL:=[H0,H1,H2]) (j:=2) rfl hc),s2.ck⟩,rfl⟩
 mono:=by
  rintro x cs H H' ⟨a0,n0,a1,n1,a2,n2,⟨r0,c0⟩,⟨r1,c1⟩,⟨r2,c2⟩,rfl⟩ hs;exact⟨a0,n0,a1,n1,a2,n2,⟨r0.mono hs,c0⟩,⟨r1.mono hs,c1⟩,⟨r2.mono hs,c2⟩,rfl⟩
 pos:=by decide
structure aJ where
 W:Int
 H:Int
 C:(List Int)
instance :Inhabited aJ:=⟨⟨default,default,default⟩⟩
structure bx where
 m:aJ
 bS:Int
 qA:(List Int)
instance :Inhabited bx:=⟨⟨default,default,default⟩⟩
structure qf where
 version:Int
 nodes:(List Int)
 aR:(List Int)
instance :Inhabited qf:=⟨⟨default,default,default⟩⟩
structure dO where
 parts:(List qf)
 clean:Int
 count:Int
instance :Inhabited dO:=⟨⟨default,default,default⟩⟩
structure hJ where
 goal:Int
 bS:Int
 aR:(List Int)
instance :Inhabited hJ:=⟨⟨default,default,default⟩⟩
structure ko where
 kept:(Option hJ)
 count:Int
instance :Inhabited ko:=⟨⟨default,default⟩⟩
structure d_ where
 ay:bx
 iQ:dO
 jo:ko
instance :Inhabited d_:=⟨⟨default,default,default⟩⟩
structure cw where
 core:(Option d_)
 gd:jJ
 aW:gD
instance :Inhabited cw:=⟨⟨default,default,default⟩⟩
def Qw:Kd qf where
 size:=3
 own:=λx cs H=> ∃a0 n0 H0 a1 n1 H1,ak (Fl.int .i64) 3 x.nodes a0 n0 H0/\ak (Fl.int .i32) 21 x.aR a1 n1 H1/\cs=[.int .i64 x.version,.slice a0 (List.length x.nodes) n0,.slice a1 (List.length x.aR) n1]/\H=List.flatten [H0,H1]
 nt:=λx cs H=> ∃(a0:Option Addr) (n0:Nat) (a1:Option Addr) (n1:Nat),(aU (Fl.int .i64) x.nodes a0 H/\List.length x.nodes<=n0)/\(aU (Fl.int .i32) x.aR a1 H/\List.length x.aR<=n1)/\cs=[.int .i64 x.version,.slice a0 (List.length x.nodes) n0,.slice a1 (List.length x.aR) n1]
 len:=by
  rintro x cs H ⟨a0,n0,H0,a1,n1,H1,s0,s1,rfl,rfl⟩
  rfl
 plain:=by
  rintro x cs H ⟨a0,n0,H0,a1,n1,H1,s0,s1,rfl,rfl⟩ v hv;simp only[List.mem_cons,List.not_mem_nil,or_false] at hv;rcases hv with rfl |rfl |rfl<;>rfl
 r:=by
  rintro x cs H ⟨a0,n0,H0,a1,n1,H1,s0,s1,rfl,rfl⟩;exact⟨a0,n0,a1,n1,⟨s0.r.mono (λc hc=>iv (HL:=[H0,H1]) (j:=0) rfl hc),s0.ck⟩,⟨s1.r.mono (λc hc=>iv (HL:=[H0,H1]) (j:=1) rfl hc),s1.ck⟩,rfl⟩
 mono:=by
  rintro x cs H H' ⟨a0,n0,a1,n1,⟨r0,c0⟩,⟨r1,c1⟩,rfl⟩ hs;exact⟨a0,n0,a1,n1,⟨r0.mono hs,c0⟩,⟨r1.mono hs,c1⟩,rfl⟩
 pos:=by decide
structure aI where
 Id:Int
 Cell:Int
 Goal:Int
instance :Inhabited aI:=⟨⟨default,default,default⟩⟩
def mc:Fl aI:=⟨3,λx=>[.int .i64 x.Id,.int .i64 x.Cell,.int .i64 x.Goal],λ_=>rfl,λ_ v h=>by
 simp only[List.mem_cons,List.not_mem_nil,or_false] at h;rcases h with rfl |rfl |rfl<;>rfl,Nat.le_of_ble_eq_true rfl⟩
structure fC where
 most:Int
 next:Int
 live:(List (Int×aI))
 order:(List Int)
instance :Inhabited fC:=⟨⟨default,default,default,default⟩⟩
structure fT where
 words:(List Int)
 count:Int
instance :Inhabited fT:=⟨⟨default,default⟩⟩
structure eK where
 w:Int
 h:Int
 most:Int
 db:fC
 floor:fT
instance :Inhabited eK:=⟨⟨default,default,default,default,default⟩⟩
structure bJ where
 most:Int
 nav:cw
 eT:(Option eK)
instance :Inhabited bJ:=⟨⟨default,default,default⟩⟩
structure cR where
 Kind:Int
 A:Int
 B:Int
 Map:(List Int)
instance :Inhabited cR:=⟨⟨default,default,default,default⟩⟩
def IZ:Kd cR where
 size:=4
 own:=λx cs H=> ∃a0 n0 H0,ak (Fl.int .u8) 5 x.Map a0 n0 H0/\cs=[.int .i64 x.Kind,.int .i64 x.A,.int .i64 x.B,.slice a0 (List.length x.Map) n0]/\H=List.flatten [H0]
 nt:=λx cs H=> ∃(a0:Option Addr) (n0:Nat),(aU (Fl.int .u8) x.Map a0 H/\List.length x.Map<=n0)/\cs=[.int .i64 x.Kind,.int .i64 x.A,.int .i64 x.B,.slice a0 (List.length x.Map) n0]
 len:=by
  rintro x cs H ⟨a0,n0,H0,s0,rfl,rfl⟩
  rfl
 plain:=by
  rintro x cs H ⟨a0,n0,H0,s0,rfl,rfl⟩ v hv;simp only[List.mem_cons,List.not_mem_nil,or_false] at hv;rcases hv with rfl |rfl |rfl |rfl<;>rfl
 r:=by
  rintro x cs H ⟨a0,n0,H0,s0,rfl,rfl⟩;exact⟨a0,n0,⟨s0.r.mono (λc hc=>iv (HL:=[H0]) (j:=0) rfl hc),s0.ck⟩,rfl⟩
 mono:=by
  rintro x cs H H' ⟨a0,n0,⟨r0,c0⟩,rfl⟩ hs;exact⟨a0,n0,⟨r0.mono hs,c0⟩,rfl⟩
 pos:=by decide
structure fw where
 Id:Int
 To:Int
instance :Inhabited fw:=⟨⟨default,default⟩⟩
def jT:Fl fw:=⟨2,λx=>[.int .i64 x.Id,.int .i64 x.To],λ_=>rfl,λ_ v h=>by
 simp only[List.mem_cons,List.not_mem_nil,or_false] at h;rcases h with rfl |rfl<;>rfl,Nat.le_of_ble_eq_true rfl⟩
structure jn where
 Code:Int
 D:Int
 cJ:Int
 Id:Int
 fF:(List fw)
 iK:(List Int)
 Stats:gD
instance :Inhabited jn:=⟨⟨default,default,default,default,default,default,default⟩⟩
structure BI where
 a:Int
 b:Int
 load:Bool
instance :Inhabited BI:=⟨⟨default,default,default⟩⟩
structure fm where
 b:(List Int)
 bc:Int
instance :Inhabited fm:=⟨⟨default,default⟩⟩
structure kn where
 items:(List Int)
 gone:Int
instance :Inhabited kn:=⟨⟨default,default⟩⟩
def Yb:Kd kn where
 size:=2
 own:=λx cs H=> ∃a0 n0 H0,ak (Fl.int .i64) 3 x.items a0 n0 H0/\cs=[.slice a0 (List.length x.items) n0,.int .i64 x.gone]/\H=List.flatten [H0]
 nt:=λx cs H=> ∃(a0:Option Addr) (n0:Nat),(aU (Fl.int .i64) x.items a0 H/\List.length x.items<=n0)/\cs=[.slice a0 (List.length x.items) n0,.int .i64 x.gone]
 len:=by
  rintro x cs H ⟨a0,n0,H0,s0,rfl,rfl⟩
  rfl
 plain:=by
  rintro x cs H ⟨a0,n0,H0,s0,rfl,rfl⟩ v hv;simp only[List.mem_cons,List.not_mem_nil,or_false] at hv;rcases hv with rfl |rfl<;>rfl
 r:=by
  rintro x cs H ⟨a0,n0,H0,s0,rfl,rfl⟩;exact⟨a0,n0,⟨s0.r.mono (λc hc=>iv (HL:=[H0]) (j:=0) rfl hc),s0.ck⟩,rfl⟩
 mono:=by
  rintro x cs H H' ⟨a0,n0,⟨r0,c0⟩,rfl⟩ hs;exact⟨a0,n0,⟨r0.mono hs,c0⟩,rfl⟩
 pos:=by decide
structure fa where
 bc:Int
 len:Int
 buckets:(List kn)
instance :Inhabited fa:=⟨⟨default,default,default⟩⟩
def F5:List Int:=[0,1,2,2,3,3,3,3,4,4,4,4,4,4,4,4,5,5,5,5,5,5,5,5,5,5,5,5,5,5,5,5,6,6,6,6,6,6,6,6,6,6,6,6,6,6,6,6,6,6,6,6,6,6,6,6,6,6,6,6,6,6,6,6,7,7,7,7,7,7,7,7,7,7,7,7,7,7,7,7,7,7,7,7,7,7,7,7,7,7,7,7,7,7,7,7,7,7,7,7,7,7,7,7,7,7,7,7,7,7,7,7,7,7,7,7,7,7,7,7,7,7,7,7,7,7,7,7,8,8,8,8,8,8,8,8,8,8,8,8,8,8,8,8,8,8,8,8,8,8,8,8,8,8,8,8,8,8,8,8,8,8,8,8,8,8,8,8,8,8,8,8,8,8,8,8,8,8,8,8,8,8,8,8,8,8,8,8,8,8,8,8,8,8,8,8,8,8,8,8,8,8,8,8,8,8,8,8,8,8,8,8,8,8,8,8,8,8,8,8,8,8,8,8,8,8,8,8,8,8,8,8,8,8,8,8,8,8,8,8,8,8,8,8,8,8,8,8,8,8,8,8,8,8,8,8]
structure dw where
 t:aJ
 wait:fa
 todo:(List a_)
 aR:(List Int)
instance :Inhabited dw:=⟨⟨default,default,default,default⟩⟩
structure cT where
 key:Int
 item:Int
instance :Inhabited cT:=⟨⟨default,default⟩⟩
def fV:Fl cT:=⟨2,λx=>[.int .i64 x.key,.int .i64 x.item],λ_=>rfl,λ_ v h=>by
 simp only[List.mem_cons,List.not_mem_nil,or_false] at h;rcases h with rfl |rfl<;>rfl,Nat.le_of_ble_eq_true rfl⟩
structure eW where
 l:(List cT)
instance :Inhabited eW:=⟨⟨default⟩⟩
structure eJ where
 To:Int
 kP:Int
instance :Inhabited eJ:=⟨⟨default,default⟩⟩
def qc:Fl eJ:=⟨2,λx=>[.int .i64 x.To,.int .i64 x.kP],λ_=>rfl,λ_ v h=>by
 simp only[List.mem_cons,List.not_mem_nil,or_false] at h;rcases h with rfl |rfl<;>rfl,Nat.le_of_ble_eq_true rfl⟩
structure Ej where
 t:aJ
 l:(List a_)
 aR:(List Int)
instance :Inhabited Ej:=⟨⟨default,default,default⟩⟩
structure cA where
 Goal:Int
 ft:Int
 dj:(List Int)
instance :Inhabited cA:=⟨⟨default,default,default⟩⟩
def qn:Kd cA where
 size:=3
 own:=λx cs H=> ∃a0 n0 H0,ak (Fl.int .i64) 3 x.dj a0 n0 H0/\cs=[.int .i64 x.Goal,.int .i64 x.ft,.slice a0 (List.length x.dj) n0]/\H=List.flatten [H0]
 nt:=λx cs H=> ∃(a0:Option Addr) (n0:Nat),(aU (Fl.int .i64) x.dj a0 H/\List.length x.dj<=n0)/\cs=[.int .i64 x.Goal,.int .i64 x.ft,.slice a0 (List.length x.dj) n0]
 len:=by
  rintro x cs H ⟨a0,n0,H0,s0,rfl,rfl⟩
  rfl
 plain:=by
  rintro x cs H ⟨a0,n0,H0,s0,rfl,rfl⟩ v hv;simp only[List.mem_cons,List.not_mem_nil,or_false] at hv;rcases hv with rfl |rfl |rfl<;>rfl
 r:=by
  rintro x cs H ⟨a0,n0,H0,s0,rfl,rfl⟩;exact⟨a0,n0,⟨s0.r.mono (λc hc=>iv (HL:=[H0]) (j:=0) rfl hc),s0.ck⟩,rfl⟩
 mono:=by
  rintro x cs H H' ⟨a0,n0,⟨r0,c0⟩,rfl⟩ hs;exact⟨a0,n0,⟨r0.mono hs,c0⟩,rfl⟩
 pos:=by decide
structure nn where
 w:Int
 h:Int
 ky:(List (Int×Bool))
 lj:(List fw)
 gone:(List Int)
instance :Inhabited nn:=⟨⟨default,default,default,default,default⟩⟩
def fL (n : String) (t o b : Nat) : Field := ⟨n, t, o, false, "", "", b⟩
def cm (n : String) (t o b : Nat) (p : String) : Field := ⟨n, t, o, false, "", p, b⟩
theorem aM {P : Program} {f : FuncId} {fn : Func} (h : P.funcs[f]? = some fn) (a : (fn.name == "runtime.NumGoroutine") = false := by kernel_rfl) (b : fn.body.isNone = false := by kernel_rfl) : Has P f := ⟨⟨fn, h, a, b⟩⟩
theorem all_map {α β:Type} {g:Nat->β} {k:α->β}: ∀{l:List (Nat×α)},l.map (λe=>g e.1)=l.map (λe=>k e.2)->Gf (λt d=>g t=k d) l
 |[],_=>trivial
 |_::_,h=>⟨(List.cons.inj h).1,all_map (List.cons.inj h).2⟩
def Ty.om {P:Program} (us:List (Nat×TypeDesc)) (is:List (Nat×(Nat×Nat×Value))) (hu:us.map (λe=>P.underlying e.1)=us.map (λe=>some e.2):=by kernel_rfl)
 (hi:is.map (λe=>(P.info? e.1).map λi=>(i.size,i.bytes,i.zero))=is.map (λe=>some (e.2.1,e.2.2.1,some e.2.2.2)):=by kernel_rfl):Ty P:=
 Ty.of us is (all_map hu) (all_map (k:=λd:Nat×Nat×Value=>some (d.1,d.2.1,some d.2.2)) hi)
theorem u3:Tryz.prog.underlying 3=some (.int .i64):=aA
theorem mg:Tryz.prog.underlying 76=some (.array 2 3):=aA
noncomputable def T : Ty Tryz.prog := Ty.om [(2, .int .i64), (3, .int .i64), (4, .bool), (5, .int .u8), (9, .string), (21, .int .i32), (22, .slice 5), (23, .slice 97), (24, .slice 3), (25, .pointer 103), (30, .struct #[(fL "W" 3 0 0), (fL "H" 3 1 8), (fL "C" 22 2 16)]), (40, .slice 55), (43, .slice 4), (44, .int .u64), (46, .struct #[(fL "Rebuilds" 44 0 0), (fL "Searches" 44 1 8), (fL "Builds" 44 2 16), (fL "Hits" 44 3 24), (fL "Stale" 44 4 32), (fL "Evicts" 44 5 40)]), (48, .slice 67), (50, .slice 94), (52, .struct #[(fL "Code" 3 0 0), (fL "D" 3 1 8), (fL "Dir" 3 2 16), (fL "Id" 3 3 24), (fL "Moves" 50 4 32), (fL "Gone" 24 5 56), (fL "Stats" 46 6 80)]), (55, .struct #[(fL "Kind" 3 0 0), (fL "A" 3 1 8), (fL "B" 3 2 16), (fL "Map" 22 3 24)]), (59, .slice 120), (63, .slice 65), (65, .int .u32), (67, .struct #[(fL "Id" 3 0 0), (fL "Cell" 3 1 8), (fL "Goal" 3 2 16)]), (76, .array 2 3), (79, .struct #[(fL "Dist" 24 0 0), (fL "Dir" 24 1 24)]), (88, .pointer 135), (94, .struct #[(fL "Id" 3 0 0), (fL "To" 3 1 8)]), (97, .struct #[(fL "Kind" 3 0 0), (fL "A" 3 1 8), (fL "B" 3 2 16)]), (101, .pointer 146), (103, .struct #[(cm "most" 3 0 0 "herdsman/svc"), (cm "nav" 88 1 8 "herdsman/svc"), (cm "crowd" 101 2 16 "herdsman/svc")]), (106, .interface #[("Error", 415)]), (110, .pointer 112), (112, .struct #[(cm "kind" 3 0 0 "herdsman/svc"), (cm "of" 106 1 8 "herdsman/svc")]), (117, .map 3 59), (118, .map 76 3), (120, .struct #[(fL "Goal" 3 0 0), (fL "Sector" 3 1 8), (fL "Ids" 24 2 16)]), (122, .map 3 4), (123, .array 6 44), (130, .pointer 167), (131, .pointer 213), (132, .pointer 233), (133, .pointer 173), (135, .struct #[(cm "grid" 130 0 0 "herdsman/nav"), (cm "mesh" 131 1 8 "herdsman/nav"), (cm "finder" 132 2 16 "herdsman/nav"), (cm "shelf" 133 3 24 "herdsman/nav"), (cm "past" 46 4 32 "herdsman/nav")]), (136, .int .u64), (139, .struct #[(fL "W" 3 0 0), (fL "H" 3 1 8), (fL "C" 22 2 16)]), (143, .pointer 178), (144, .pointer 221), (146, .struct #[(cm "w" 3 0 0 "herdsman/crowd"), (cm "h" 3 1 8 "herdsman/crowd"), (cm "most" 3 2 16 "herdsman/crowd"), (cm "units" 143 3 24 "herdsman/crowd"), (cm "floor" 144 4 32 "herdsman/crowd")]), (148, .int .i64), (160, .pointer 148), (165, .slice 2), (167, .struct #[(cm "m" 30 0 0 "herdsman/grid"), (cm "epoch" 2 3 40 "herdsman/grid"), (cm "versions" 165 4 48 "herdsman/grid")]), (169, .pointer 238), (171, .slice 291), (173, .struct #[(cm "keys" 169 0 0 "herdsman/shelf"), (cm "fields" 171 1 8 "herdsman/shelf"), (cm "count" 46 2 32 "herdsman/shelf")]), (176, .map 3 67), (178, .struct #[(cm "most" 3 0 0 "herdsman/units"), (cm "next" 3 1 8 "herdsman/units"), (cm "live" 176 2 16 "herdsman/units"), (cm "order" 24 3 24 "herdsman/units")]), (180, .struct #[(cm "a" 3 0 0 "herdsman/op"), (cm "b" 3 1 8 "herdsman/op"), (cm "load" 4 2 16 "herdsman/op")]), (211, .slice 217), (213, .struct #[(cm "g" 130 0 0 "herdsman/mesh"), (cm "parts" 211 1 8 "herdsman/mesh"), (cm "clean" 2 2 32 "herdsman/mesh"), (cm "count" 44 3 40 "herdsman/mesh")]), (215, .slice 21), (217, .struct #[(cm "version" 2 0 0 "herdsman/mesh"), (cm "nodes" 24 1 8 "herdsman/mesh"), (cm "dist" 215 2 32 "herdsman/mesh")]), (221, .struct #[(cm "words" 63 0 0 "herdsman/floor"), (cm "count" 3 1 24 "herdsman/floor")]), (222, .pointer 224), (224, .struct #[(cm "goal" 3 0 0 "herdsman/nav"), (cm "of" 106 1 8 "herdsman/nav")]), (227, .slice 285), (229, .pointer 235), (233, .struct #[(cm "m" 131 0 0 "herdsman/route"), (cm "g" 130 1 8 "herdsman/route"), (cm "kept" 229 2 16 "herdsman/route"), (cm "count" 44 3 24 "herdsman/route")]), (235, .struct #[(cm "goal" 3 0 0 "herdsman/route"), (cm "epoch" 2 1 8 "herdsman/route"), (cm "dist" 215 2 16 "herdsman/route")]), (236, .slice 278), (238, .struct #[(cm "k" 3 0 0 "herdsman/lru"), (cm "seats" 236 1 8 "herdsman/lru"), (cm "slots" 118 2 32 "herdsman/lru"), (cm "newest" 3 3 40 "herdsman/lru"), (cm "oldest" 3 4 48 "herdsman/lru")]), (243, .int .i64), (244, .pointer 243), (258, .map 3 3), (278, .struct #[(cm "key" 76 0 0 "herdsman/lru"), (cm "newer" 3 2 16 "herdsman/lru"), (cm "old" 3 3 24 "herdsman/lru")]), (280, .slice 283), (283, .struct #[(fL "To" 3 0 0), (fL "Cost" 3 1 8)]), (285, .struct #[(fL "Cell" 3 0 0), (fL "Side" 3 1 8), (fL "Key" 3 2 16)]), (291, .struct #[(cm "version" 2 0 0 "herdsman/shelf"), (cm "seeds" 227 1 8 "herdsman/shelf"), (cm "field" 79 2 32 "herdsman/shelf")]), (301, .pointer 303), (303, .struct #[(cm "sector" 3 0 0 "herdsman/atlas"), (cm "of" 106 1 8 "herdsman/atlas")]), (309, .struct #[(cm "w" 3 0 0 "herdsman/march"), (cm "h" 3 1 8 "herdsman/march"), (cm "stand" 122 2 16 "herdsman/march"), (cm "moves" 50 3 24 "herdsman/march"), (cm "gone" 24 4 48 "herdsman/march")]), (314, .array 4 3), (320, .pointer 357), (337, .struct #[(cm "t" 139 0 0 "herdsman/steer"), (cm "l" 227 3 40 "herdsman/steer"), (cm "dist" 24 4 64 "herdsman/steer")]), (340, .struct #[(cm "b" 22 0 0 "herdsman/pack"), (cm "at" 3 1 24 "herdsman/pack")]), (343, .pointer 346), (344, .pointer 343), (346, .struct #[(cm "at" 3 0 0 "herdsman/pack"), (cm "code" 3 1 8 "herdsman/pack"), (cm "of" 106 2 16 "herdsman/pack")]), (355, .slice 359), (357, .struct #[(cm "l" 355 0 0 "herdsman/heap")]), (359, .struct #[(cm "key" 3 0 0 "herdsman/heap"), (cm "item" 3 1 8 "herdsman/heap")]), (360, .pointer 217), (365, .pointer 396), (369, .struct #[(cm "t" 139 0 0 "herdsman/sweep"), (cm "wait" 365 3 40 "herdsman/sweep"), (cm "todo" 227 4 48 "herdsman/sweep"), (cm "dist" 24 5 72 "herdsman/sweep")]), (393, .struct #[(cm "items" 24 0 0 "herdsman/ring"), (cm "gone" 3 1 24 "herdsman/ring")]), (394, .array 256 393), (396, .struct #[(cm "at" 3 0 0 "herdsman/ring"), (cm "len" 3 1 8 "herdsman/ring"), (cm "buckets" 394 2 16 "herdsman/ring")])]
 [(2,(1,8,(ii 0))),(3,(1,8,(ii 0))),(4,(1,1,(bb false))),(5,(1,1,(.int .u8 0))),(21,(1,4,(.int .i32 0))),(22,(1,24,nl)),(24,(1,24,nl)),(30,(3,40,(.agg #[(ii 0),(ii 0),nl]))),(44,(1,8,(uu 0))),(46,(6,48,(.agg #[(uu 0),(uu 0),(uu 0),(uu 0),(uu 0),(uu 0)]))),(50,(1,24,nl)),(52,(12,128,(.agg #[(ii 0),(ii 0),(ii 0),(ii 0),nl,nl,(uu 0),(uu 0),(uu 0),(uu 0),(uu 0),(uu 0)]))),(55,(4,48,(.agg #[(ii 0),(ii 0),(ii 0),nl]))),(59,(1,24,nl)),(63,(1,24,nl)),(65,(1,4,(.int .u32 0))),(67,(3,24,(.agg #[(ii 0),(ii 0),(ii 0)]))),(76,(2,16,(.agg #[(ii 0),(ii 0)]))),(79,(2,48,(.agg #[nl,nl]))),(88,(1,8,(.pointer none))),(94,(2,16,(.agg #[(ii 0),(ii 0)]))),(97,(3,24,(.agg #[(ii 0),(ii 0),(ii 0)]))),(101,(1,8,(.pointer none))),(103,(3,24,(.agg #[(ii 0),(.pointer none),(.pointer none)]))),(106,(1,16,.nilIface)),(112,(2,24,(.agg #[(ii 0),.nilIface]))),(118,(1,8,(.map none))),(120,(3,40,(.agg #[(ii 0),(ii 0),nl]))),(122,(1,8,(.map none))),(123,(6,48,(.agg #[(uu 0),(uu 0),(uu 0),(uu 0),(uu 0),(uu 0)]))),(130,(1,8,(.pointer none))),(131,(1,8,(.pointer none))),(132,(1,8,(.pointer none))),(133,(1,8,(.pointer none))),(135,(10,80,(.agg #[(.pointer none),(.pointer none),(.pointer none),(.pointer none),(uu 0),(uu 0),(uu 0),(uu 0),(uu 0),(uu 0)]))),(139,(3,40,(.agg #[(ii 0),(ii 0),nl]))),(143,(1,8,(.pointer none))),(144,(1,8,(.pointer none))),(146,(5,40,(.agg #[(ii 0),(ii 0),(ii 0),(.pointer none),(.pointer none)]))),(148,(1,8,(ii 0))),(165,(1,24,nl)),(167,(5,72,(.agg #[(ii 0),(ii 0),nl,(ii 0),nl]))),(169,(1,8,(.pointer none))),(171,(1,24,nl)),(173,(8,80,(.agg #[(.pointer none),nl,(uu 0),(uu 0),(uu 0),(uu 0),(uu 0),(uu 0)]))),(176,(1,8,(.map none))),(178,(4,48,(.agg #[(ii 0),(ii 0),(.map none),nl]))),(180,(3,24,(.agg #[(ii 0),(ii 0),(bb false)]))),(211,(1,24,nl)),(213,(4,48,(.agg #[(.pointer none),nl,(ii 0),(uu 0)]))),(215,(1,24,nl)),(217,(3,56,(.agg #[(ii 0),nl,nl]))),(221,(2,32,(.agg #[nl,(ii 0)]))),(224,(2,24,(.agg #[(ii 0),.nilIface]))),(227,(1,24,nl)),(229,(1,8,(.pointer none))),(233,(4,32,(.agg #[(.pointer none),(.pointer none),(.pointer none),(uu 0)]))),(235,(3,40,(.agg #[(ii 0),(ii 0),nl]))),(236,(1,24,nl)),(238,(5,56,(.agg #[(ii 0),nl,(.map none),(ii 0),(ii 0)]))),(243,(1,8,(ii 0))),(278,(4,32,(.agg #[(ii 0),(ii 0),(ii 0),(ii 0)]))),(283,(2,16,(.agg #[(ii 0),(ii 0)]))),(285,(3,24,(.agg #[(ii 0),(ii 0),(ii 0)]))),(291,(4,80,(.agg #[(ii 0),nl,nl,nl]))),(303,(2,24,(.agg #[(ii 0),.nilIface]))),(309,(5,72,(.agg #[(ii 0),(ii 0),(.map none),nl,nl]))),(314,(4,32,(.agg #[(ii 0),(ii 0),(ii 0),(ii 0)]))),(337,(5,88,(.agg #[(ii 0),(ii 0),nl,nl,nl]))),(340,(2,32,(.agg #[nl,(ii 0)]))),(343,(1,8,(.pointer none))),(346,(3,32,(.agg #[(ii 0),(ii 0),.nilIface]))),(355,(1,24,nl)),(357,(1,24,(.agg #[nl]))),(359,(2,16,(.agg #[(ii 0),(ii 0)]))),(365,(1,8,(.pointer none))),(369,(6,96,(.agg #[(ii 0),(ii 0),nl,(.pointer none),nl,nl]))),(393,(2,32,(.agg #[nl,(ii 0)]))),(394,(512,8192,(.agg #[nl,(ii 0),nl,(ii 0),nl,(ii 0),nl,(ii 0),nl,(ii 0),nl,(ii 0),nl,(ii 0),nl,(ii 0),nl,(ii 0),nl,(ii 0),nl,(ii 0),nl,(ii 0),nl,(ii 0),nl,(ii 0),nl,(ii 0),nl,(ii 0),nl,(ii 0),nl,(ii 0),nl,(ii 0),nl,(ii 0),nl,(ii 0),nl,(ii 0),nl,(ii 0),nl,(ii 0),nl,(ii 0),nl,(ii 0),nl,(ii 0),nl,(ii 0),nl,(ii 0),nl,(ii 0),nl,(ii 0),nl,(ii 0),nl,(ii 0),nl,(ii 0),nl,(ii 0),nl,(ii 0),nl,(ii 0),nl,(ii 0),nl,(ii 0),nl,(ii 0),nl,(ii 0),nl,(ii 0),nl,(ii 0),nl,(ii 0),nl,(ii 0),nl,(ii 0),nl,(ii 0),nl,(ii 0),nl,(ii 0),nl,(ii 0),nl,(ii 0),nl,(ii 0),nl,(ii 0),nl,(ii 0),nl,(ii 0),nl,(ii 0),nl,(ii 0),nl,(ii 0),nl,(ii 0),nl,(ii 0),nl,(ii 0),nl,(ii 0),nl,(ii 0),nl,(ii 0),nl,(ii 0),nl,(ii 0),nl,(ii 0),nl,(ii 0),nl,(ii 0),nl,(ii 0),nl,(ii 0),nl,(ii 0),nl,(ii 0),nl,(ii 0),nl,(ii 0),nl,(ii 0),nl,(ii 0),nl,(ii 0),nl,(ii 0),nl,(ii 0),nl,(ii 0),nl,(ii 0),nl,(ii 0),nl,(ii 0),nl,(ii 0),nl,(ii 0),nl,(ii 0),nl,(ii 0),nl,(ii 0),nl,(ii 0),nl,(ii 0),nl,(ii 0),nl,(ii 0),nl,(ii 0),nl,(ii 0),nl,(ii 0),nl,(ii 0),nl,(ii 0),nl,(ii 0),nl,(ii 0),nl,(ii 0),nl,(ii 0),nl,(ii 0),nl,(ii 0),nl,(ii 0),nl,(ii 0),nl,(ii 0),nl,(ii 0),nl,(ii 0),nl,(ii 0),nl,(ii 0),nl,(ii 0),nl,(ii 0),nl,(ii 0),nl,(ii 0),nl,(ii 0),nl,(ii 0),nl,(ii 0),nl,(ii 0),nl,(ii 0),nl,(ii 0),nl,(ii 0),nl,(ii 0),nl,(ii 0),nl,(ii 0),nl,(ii 0),nl,(ii 0),nl,(ii 0),nl,(ii 0),nl,(ii 0),nl,(ii 0),nl,(ii 0),nl,(ii 0),nl,(ii 0),nl,(ii 0),nl,(ii 0),nl,(ii 0),nl,(ii 0),nl,(ii 0),nl,(ii 0),nl,(ii 0),nl,(ii 0),nl,(ii 0),nl,(ii 0),nl,(ii 0),nl,(ii 0),nl,(ii 0),nl,(ii 0),nl,(ii 0),nl,(ii 0),nl,(ii 0),nl,(ii 0),nl,(ii 0),nl,(ii 0),nl,(ii 0),nl,(ii 0),nl,(ii 0),nl,(ii 0),nl,(ii 0),nl,(ii 0),nl,(ii 0),nl,(ii 0),nl,(ii 0),nl,(ii 0),nl,(ii 0),nl,(ii 0),nl,(ii 0),nl,(ii 0),nl,(ii 0),nl,(ii 0),nl,(ii 0),nl,(ii 0),nl,(ii 0),nl,(ii 0),nl,(ii 0),nl,(ii 0),nl,(ii 0),nl,(ii 0),nl,(ii 0),nl,(ii 0),nl,(ii 0),nl,(ii 0),nl,(ii 0),nl,(ii 0),nl,(ii 0),nl,(ii 0),nl,(ii 0),nl,(ii 0),nl,(ii 0),nl,(ii 0),nl,(ii 0),nl,(ii 0),nl,(ii 0),nl,(ii 0),nl,(ii 0),nl,(ii 0),nl,(ii 0),nl,(ii 0),nl,(ii 0),nl,(ii 0),nl,(ii 0),nl,(ii 0),nl,(ii 0),nl,(ii 0),nl,(ii 0),nl,(ii 0),nl,(ii 0),nl,(ii 0),nl,(ii 0),nl,(ii 0),nl,(ii 0),nl,(ii 0),nl,(ii 0),nl,(ii 0),nl,(ii 0),nl,(ii 0),nl,(ii 0),nl,(ii 0),nl,(ii 0),nl,(ii 0),nl,(ii 0),nl,(ii 0),nl,(ii 0),nl,(ii 0),nl,(ii 0),nl,(ii 0),nl,(ii 0),nl,(ii 0),nl,(ii 0),nl,(ii 0),nl,(ii 0),nl,(ii 0),nl,(ii 0),nl,(ii 0),nl,(ii 0),nl,(ii 0),nl,(ii 0),nl,(ii 0),nl,(ii 0),nl,(ii 0),nl,(ii 0),nl,(ii 0),nl,(ii 0),nl,(ii 0),nl,(ii 0),nl,(ii 0),nl,(ii 0),nl,(ii 0),nl,(ii 0),nl,(ii 0),nl,(ii 0),nl,(ii 0),nl,(ii 0),nl,(ii 0),nl,(ii 0),nl,(ii 0)]))),(396,(514,8208,(.agg #[(ii 0),(ii 0),nl,(ii 0),nl,(ii 0),nl,(ii 0),nl,(ii 0),nl,(ii 0),nl,(ii 0),nl,(ii 0),nl,(ii 0),nl,(ii 0),nl,(ii 0),nl,(ii 0),nl,(ii 0),nl,(ii 0),nl,(ii 0),nl,(ii 0),nl,(ii 0),nl,(ii 0),nl,(ii 0),nl,(ii 0),nl,(ii 0),nl,(ii 0),nl,(ii 0),nl,(ii 0),nl,(ii 0),nl,(ii 0),nl,(ii 0),nl,(ii 0),nl,(ii 0),nl,(ii 0),nl,(ii 0),nl,(ii 0),nl,(ii 0),nl,(ii 0),nl,(ii 0),nl,(ii 0),nl,(ii 0),nl,(ii 0),nl,(ii 0),nl,(ii 0),nl,(ii 0),nl,(ii 0),nl,(ii 0),nl,(ii 0),nl,(ii 0),nl,(ii 0),nl,(ii 0),nl,(ii 0),nl,(ii 0),nl,(ii 0),nl,(ii 0),nl,(ii 0),nl,(ii 0),nl,(ii 0),nl,(ii 0),nl,(ii 0),nl,(ii 0),nl,(ii 0),nl,(ii 0),nl,(ii 0),nl,(ii 0),nl,(ii 0),nl,(ii 0),nl,(ii 0),nl,(ii 0),nl,(ii 0),nl,(ii 0),nl,(ii 0),nl,(ii 0),nl,(ii 0),nl,(ii 0),nl,(ii 0),nl,(ii 0),nl,(ii 0),nl,(ii 0),nl,(ii 0),nl,(ii 0),nl,(ii 0),nl,(ii 0),nl,(ii 0),nl,(ii 0),nl,(ii 0),nl,(ii 0),nl,(ii 0),nl,(ii 0),nl,(ii 0),nl,(ii 0),nl,(ii 0),nl,(ii 0),nl,(ii 0),nl,(ii 0),nl,(ii 0),nl,(ii 0),nl,(ii 0),nl,(ii 0),nl,(ii 0),nl,(ii 0),nl,(ii 0),nl,(ii 0),nl,(ii 0),nl,(ii 0),nl,(ii 0),nl,(ii 0),nl,(ii 0),nl,(ii 0),nl,(ii 0),nl,(ii 0),nl,(ii 0),nl,(ii 0),nl,(ii 0),nl,(ii 0),nl,(ii 0),nl,(ii 0),nl,(ii 0),nl,(ii 0),nl,(ii 0),nl,(ii 0),nl,(ii 0),nl,(ii 0),nl,(ii 0),nl,(ii 0),nl,(ii 0),nl,(ii 0),nl,(ii 0),nl,(ii 0),nl,(ii 0),nl,(ii 0),nl,(ii 0),nl,(ii 0),nl,(ii 0),nl,(ii 0),nl,(ii 0),nl,(ii 0),nl,(ii 0),nl,(ii 0),nl,(ii 0),nl,(ii 0),nl,(ii 0),nl,(ii 0),nl,(ii 0),nl,(ii 0),nl,(ii 0),nl,(ii 0),nl,(ii 0),nl,(ii 0),nl,(ii 0),nl,(ii 0),nl,(ii 0),nl,(ii 0),nl,(ii 0),nl,(ii 0),nl,(ii 0),nl,(ii 0),nl,(ii 0),nl,(ii 0),nl,(ii 0),nl,(ii 0),nl,(ii 0),nl,(ii 0),nl,(ii 0),nl,(ii 0),nl,(ii 0),nl,(ii 0),nl,(ii 0),nl,(ii 0),nl,(ii 0),nl,(ii 0),nl,(ii 0),nl,(ii 0),nl,(ii 0),nl,(ii 0),nl,(ii 0),nl,(ii 0),nl,(ii 0),nl,(ii 0),nl,(ii 0),nl,(ii 0),nl,(ii 0),nl,(ii 0),nl,(ii 0),nl,(ii 0),nl,(ii 0),nl,(ii 0),nl,(ii 0),nl,(ii 0),nl,(ii 0),nl,(ii 0),nl,(ii 0),nl,(ii 0),nl,(ii 0),nl,(ii 0),nl,(ii 0),nl,(ii 0),nl,(ii 0),nl,(ii 0),nl,(ii 0),nl,(ii 0),nl,(ii 0),nl,(ii 0),nl,(ii 0),nl,(ii 0),nl,(ii 0),nl,(ii 0),nl,(ii 0),nl,(ii 0),nl,(ii 0),nl,(ii 0),nl,(ii 0),nl,(ii 0),nl,(ii 0),nl,(ii 0),nl,(ii 0),nl,(ii 0),nl,(ii 0),nl,(ii 0),nl,(ii 0),nl,(ii 0),nl,(ii 0),nl,(ii 0),nl,(ii 0),nl,(ii 0),nl,(ii 0),nl,(ii 0),nl,(ii 0),nl,(ii 0),nl,(ii 0),nl,(ii 0),nl,(ii 0),nl,(ii 0),nl,(ii 0),nl,(ii 0),nl,(ii 0),nl,(ii 0),nl,(ii 0),nl,(ii 0),nl,(ii 0),nl,(ii 0),nl,(ii 0),nl,(ii 0),nl,(ii 0),nl,(ii 0),nl,(ii 0),nl,(ii 0),nl,(ii 0),nl,(ii 0),nl,(ii 0),nl,(ii 0),nl,(ii 0),nl,(ii 0),nl,(ii 0),nl,(ii 0),nl,(ii 0),nl,(ii 0),nl,(ii 0),nl,(ii 0),nl,(ii 0),nl,(ii 0)])))]
abbrev aL:=Has Tryz.prog
theorem adV:aL 11:=aM Tryz.func11
theorem lL:aL 12:=aM Tryz.func12
theorem ad7:aL 13:=aM Tryz.func13
theorem UD:aL 14:=aM Tryz.func14
theorem UN:aL 16:=aM Tryz.func16
theorem UR:aL 18:=aM Tryz.func18
theorem aes:aL 19:=aM Tryz.func19
theorem aez:aL 20:=aM Tryz.func20
theorem U3:aL 21:=aM Tryz.func21
theorem U6:aL 22:=aM Tryz.func22
theorem aeP:aL 23:=aM Tryz.func23
theorem Fa:aL 24:=aM Tryz.func24
theorem Va:aL 25:=aM Tryz.func25
theorem tf:aL 26:=aM Tryz.func26
theorem aff:aL 28:=aM Tryz.func28
theorem afk:aL 29:=aM Tryz.func29
theorem afu:aL 36:=aM Tryz.func36
theorem afv:aL 41:=aM Tryz.func41
theorem Vi:aL 42:=aM Tryz.func42
theorem afw:aL 43:=aM Tryz.func43
theorem OX:aL 45:=aM Tryz.func45
theorem afx:aL 46:=aM Tryz.func46
theorem Br:aL 47:=aM Tryz.func47
theorem Vj:aL 48:=aM Tryz.func48
theorem OY:aL 49:=aM Tryz.func49
theorem afy:aL 50:=aM Tryz.func50
theorem afz:aL 51:=aM Tryz.func51
theorem afA:aL 52:=aM Tryz.func52
theorem Vk:aL 53:=aM Tryz.func53
theorem K6:aL 54:=aM Tryz.func54
theorem afB:aL 55:=aM Tryz.func55
theorem afC:aL 56:=aM Tryz.func56
theorem OZ:aL 57:=aM Tryz.func57
theorem O0:aL 58:=aM Tryz.func58
theorem HB:aL 59:=aM Tryz.func59
theorem Vl:aL 61:=aM Tryz.func61
theorem qQ:aL 62:=aM Tryz.func62
theorem O1:aL 67:=aM Tryz.func67
theorem Vm:aL 68:=aM Tryz.func68
theorem Vn:aL 70:=aM Tryz.func70
theorem afD:aL 71:=aM Tryz.func71
theorem afE:aL 73:=aM Tryz.func73
theorem Vo:aL 74:=aM Tryz.func74
theorem afF:aL 75:=aM Tryz.func75
theorem afG:aL 76:=aM Tryz.func76
theorem afH:aL 77:=aM Tryz.func77
theorem O7:aL 78:=aM Tryz.func78
theorem Vp:aL 79:=aM Tryz.func79
theorem afI:aL 80:=aM Tryz.func80
theorem afJ:aL 81:=aM Tryz.func81
theorem afK:aL 82:=aM Tryz.func82
theorem afL:aL 83:=aM Tryz.func83
theorem afM:aL 84:=aM Tryz.func84
theorem afN:aL 85:=aM Tryz.func85
theorem afO:aL 86:=aM Tryz.func86
theorem afP:aL 87:=aM Tryz.func87
theorem wJ:aL 88:=aM Tryz.func88
theorem Vq:aL 89:=aM Tryz.func89
theorem Vr:aL 90:=aM Tryz.func90
theorem afQ:aL 91:=aM Tryz.func91
theorem afR:aL 92:=aM Tryz.func92
theorem K7:aL 93:=aM Tryz.func93
theorem K8:aL 94:=aM Tryz.func94
theorem O9:aL 95:=aM Tryz.func95
theorem C9:aL 96:=aM Tryz.func96
theorem afS:aL 97:=aM Tryz.func97
theorem Uw:aL 100:=aM Tryz.func100
theorem Ux:aL 101:=aM Tryz.func101
theorem OE:aL 103:=aM Tryz.func103
theorem adT:aL 104:=aM Tryz.func104
theorem adU:aL 105:=aM Tryz.func105
theorem KX:aL 106:=aM Tryz.func106
theorem Uy:aL 107:=aM Tryz.func107
theorem Uz:aL 108:=aM Tryz.func108
theorem UA:aL 109:=aM Tryz.func109
theorem adW:aL 110:=aM Tryz.func110
theorem OG:aL 111:=aM Tryz.func111
theorem OH:aL 112:=aM Tryz.func112
theorem KY:aL 113:=aM Tryz.func113
theorem adX:aL 114:=aM Tryz.func114
theorem adY:aL 115:=aM Tryz.func115
theorem adZ:aL 116:=aM Tryz.func116
theorem OI:aL 117:=aM Tryz.func117
theorem UB:aL 118:=aM Tryz.func118
theorem ad0:aL 119:=aM Tryz.func119
theorem ad1:aL 120:=aM Tryz.func120
theorem ad2:aL 121:=aM Tryz.func121
theorem C6:aL 122:=aM Tryz.func122
theorem OJ:aL 123:=aM Tryz.func123
theorem UC:aL 124:=aM Tryz.func124
theorem OK:aL 125:=aM Tryz.func125
theorem ad3:aL 126:=aM Tryz.func126
theorem ad4:aL 127:=aM Tryz.func127
theorem ad5:aL 128:=aM Tryz.func128
theorem ad6:aL 129:=aM Tryz.func129
theorem C7:aL 136:=aM Tryz.func136
theorem C8:aL 137:=aM Tryz.func137
theorem UE:aL 140:=aM Tryz.func140
theorem wI:aL 141:=aM Tryz.func141
theorem UF:aL 142:=aM Tryz.func142
theorem ad8:aL 143:=aM Tryz.func143
theorem E_:aL 144:=aM Tryz.func144
theorem UG:aL 145:=aM Tryz.func145
theorem ad9:aL 146:=aM Tryz.func146
theorem ad_:aL 147:=aM Tryz.func147
theorem UH:aL 148:=aM Tryz.func148
theorem UI:aL 149:=aM Tryz.func149
theorem UJ:aL 150:=aM Tryz.func150
theorem UK:aL 151:=aM Tryz.func151
theorem ad':aL 152:=aM Tryz.func152
theorem UL:aL 153:=aM Tryz.func153
theorem Hu:aL 154:=aM Tryz.func154
theorem aea:aL 155:=aM Tryz.func155
theorem aeb:aL 156:=aM Tryz.func156
theorem UM:aL 157:=aM Tryz.func157
theorem OL:aL 158:=aM Tryz.func158
theorem aec:aL 159:=aM Tryz.func159
theorem UO:aL 160:=aM Tryz.func160
theorem UP:aL 161:=aM Tryz.func161
theorem aed:aL 162:=aM Tryz.func162
theorem aee:aL 163:=aM Tryz.func163
theorem UQ:aL 164:=aM Tryz.func164
theorem Hv:aL 165:=aM Tryz.func165
theorem aef:aL 166:=aM Tryz.func166
theorem aeg:aL 167:=aM Tryz.func167
theorem aeh:aL 168:=aM Tryz.func168
theorem vk:aL 171:=aM Tryz.func171
theorem Hw:aL 172:=aM Tryz.func172
theorem KZ:aL 173:=aM Tryz.func173
theorem aei:aL 174:=aM Tryz.func174
theorem K0:aL 175:=aM Tryz.func175
theorem aej:aL 176:=aM Tryz.func176
theorem aek:aL 177:=aM Tryz.func177
theorem ael:aL 178:=aM Tryz.func178
theorem aem:aL 179:=aM Tryz.func179
theorem Hz:aL 180:=aM Tryz.func180
theorem aen:aL 181:=aM Tryz.func181
theorem aeo:aL 182:=aM Tryz.func182
theorem UT:aL 183:=aM Tryz.func183
theorem aep:aL 184:=aM Tryz.func184
theorem aeq:aL 185:=aM Tryz.func185
theorem K1:aL 186:=aM Tryz.func186
theorem UU:aL 187:=aM Tryz.func187
theorem aer:aL 188:=aM Tryz.func188
theorem UW:aL 189:=aM Tryz.func189
theorem OM:aL 190:=aM Tryz.func190
theorem aet:aL 191:=aM Tryz.func191
theorem aeu:aL 192:=aM Tryz.func192
theorem aev:aL 193:=aM Tryz.func193
theorem ON:aL 194:=aM Tryz.func194
theorem UX:aL 195:=aM Tryz.func195
theorem UY:aL 196:=aM Tryz.func196
theorem aew:aL 197:=aM Tryz.func197
theorem aex:aL 198:=aM Tryz.func198
theorem aey:aL 199:=aM Tryz.func199
theorem aeA:aL 200:=aM Tryz.func200
theorem UZ:aL 201:=aM Tryz.func201
theorem U0:aL 202:=aM Tryz.func202
theorem aeB:aL 203:=aM Tryz.func203
theorem OO:aL 204:=aM Tryz.func204
theorem U1:aL 205:=aM Tryz.func205
theorem U2:aL 206:=aM Tryz.func206
theorem Bq:aL 207:=aM Tryz.func207
theorem aeC:aL 208:=aM Tryz.func208
theorem aeD:aL 210:=aM Tryz.func210
theorem aeE:aL 211:=aM Tryz.func211
theorem aeF:aL 212:=aM Tryz.func212
theorem U4:aL 213:=aM Tryz.func213
theorem aeG:aL 214:=aM Tryz.func214
theorem aeH:aL 215:=aM Tryz.func215
theorem U5:aL 216:=aM Tryz.func216
theorem K2:aL 217:=aM Tryz.func217
theorem K3:aL 218:=aM Tryz.func218
theorem aeI:aL 219:=aM Tryz.func219
theorem K4:aL 220:=aM Tryz.func220
theorem aeJ:aL 221:=aM Tryz.func221
theorem aeK:aL 222:=aM Tryz.func222
theorem aeL:aL 223:=aM Tryz.func223
theorem U7:aL 224:=aM Tryz.func224
theorem aeM:aL 225:=aM Tryz.func225
theorem aeN:aL 226:=aM Tryz.func226
theorem OP:aL 227:=aM Tryz.func227
theorem U8:aL 228:=aM Tryz.func228
theorem aeO:aL 229:=aM Tryz.func229
theorem aeQ:aL 230:=aM Tryz.func230
theorem aeR:aL 231:=aM Tryz.func231
theorem aeS:aL 232:=aM Tryz.func232
theorem aeT:aL 233:=aM Tryz.func233
theorem aeU:aL 234:=aM Tryz.func234
theorem aeV:aL 235:=aM Tryz.func235
theorem aeW:aL 236:=aM Tryz.func236
theorem OQ:aL 237:=aM Tryz.func237
theorem aeX:aL 238:=aM Tryz.func238
theorem OR:aL 239:=aM Tryz.func239
theorem aeY:aL 240:=aM Tryz.func240
theorem aeZ:aL 241:=aM Tryz.func241
theorem ae0:aL 242:=aM Tryz.func242
theorem U9:aL 243:=aM Tryz.func243
theorem ae1:aL 244:=aM Tryz.func244
theorem U_:aL 245:=aM Tryz.func245
theorem ae2:aL 246:=aM Tryz.func246
theorem U':aL 247:=aM Tryz.func247
theorem OS:aL 248:=aM Tryz.func248
theorem ae3:aL 249:=aM Tryz.func249
theorem Vb:aL 250:=aM Tryz.func250
theorem ae4:aL 251:=aM Tryz.func251
theorem ae5:aL 252:=aM Tryz.func252
theorem ae6:aL 253:=aM Tryz.func253
theorem ae7:aL 254:=aM Tryz.func254
theorem ae8:aL 255:=aM Tryz.func255
theorem ae9:aL 264:=aM Tryz.func264
theorem K5:aL 265:=aM Tryz.func265
theorem ae_:aL 266:=aM Tryz.func266
theorem ae':aL 267:=aM Tryz.func267
theorem afa:aL 269:=aM Tryz.func269
theorem Vc:aL 270:=aM Tryz.func270
theorem afb:aL 271:=aM Tryz.func271
theorem afc:aL 272:=aM Tryz.func272
theorem OT:aL 273:=aM Tryz.func273
theorem OU:aL 274:=aM Tryz.func274
theorem afd:aL 275:=aM Tryz.func275
theorem afe:aL 276:=aM Tryz.func276
theorem yi:aL 277:=aM Tryz.func277
theorem OV:aL 278:=aM Tryz.func278
theorem Vd:aL 279:=aM Tryz.func279
theorem Ve:aL 280:=aM Tryz.func280
theorem afg:aL 281:=aM Tryz.func281
theorem afh:aL 282:=aM Tryz.func282
theorem afi:aL 288:=aM Tryz.func288
theorem afj:aL 289:=aM Tryz.func289
theorem afl:aL 290:=aM Tryz.func290
theorem Vf:aL 291:=aM Tryz.func291
theorem Vg:aL 292:=aM Tryz.func292
theorem OW:aL 293:=aM Tryz.func293
theorem HA:aL 294:=aM Tryz.func294
theorem afm:aL 295:=aM Tryz.func295
theorem afn:aL 297:=aM Tryz.func297
theorem afo:aL 299:=aM Tryz.func299
theorem afp:aL 300:=aM Tryz.func300
theorem Vh:aL 301:=aM Tryz.func301
theorem afq:aL 302:=aM Tryz.func302
theorem afr:aL 303:=aM Tryz.func303
theorem afs:aL 304:=aM Tryz.func304
theorem aft:aL 305:=aM Tryz.func305
theorem mix:Tryz.prog.follows .mixedOrders=true:=aA
theorem akh:Tryz.prog.stoodInHeld 94=false/\Tryz.prog.eqGuardType Tryz.prog.depth 94=false:=⟨by kernel_rfl,by kernel_rfl⟩
theorem Q6:Tryz.prog.stoodInHeld 285=false/\Tryz.prog.eqGuardType Tryz.prog.depth 285=false:=⟨by kernel_rfl,by kernel_rfl⟩
@[reducible] def ZL (o : Option gu) (v : Value) (G : List Hp) : Prop := match o with
 |none=>v= .pointer none/\G=[]
 |some x=> ∃(b:Nat) (a0 n0 H0:_) (a1:Nat) (H1:Hp),ak lh 278 x.aw a0 n0 H0/\de (Ky.pair T .i64 rfl rfl rfl mg u3) (λx:Int=>Value.int .i64 x) x.fB a1 H1/\v= .pointer (some ⟨b,0,none⟩)/\G=[(cl b 238 [(ii x.k),(ll a0 x.aw n0),(.map (some a1)),(ii x.cO),(ii x.dz)]),H0,H1]
def tV (x:jJ) (b:Nat) (H:Hp):Prop:= ∃(b0:Nat) (a1 n1 H1:_) (a2:Nat) (H2:Hp) (a3 n3 H3:_),ak lh 278 x.keys.aw a1 n1 H1/\de (Ky.pair T .i64 rfl rfl rfl mg u3) (λx:Int=>Value.int .i64 x) x.keys.fB a2 H2/\gT FK 291 x.fields a3 n3 H3/\H=List.flatten [(cl b 173 [(pp b0),(ll a3 x.fields n3),(uu x.count.bK),(uu x.count.bL),(uu x.count.bH),(uu x.count.bG),(uu x.count.bR),(uu x.count.bM)]),(cl b0 238 [(ii x.keys.k),(ll a1 x.keys.aw n1),(.map (some a2)),(ii x.keys.cO),(ii x.keys.dz)]),H1,H2,H3]
@[reducible] def ZR (o : Option jJ) (v : Value) (G : List Hp) : Prop := match o with
 |none=>v= .pointer none/\G=[]
 |some x=> ∃(b:Nat) (H:Hp),tV x b H/\v= .pointer (some ⟨b,0,none⟩)/\G=[H]
def iU (x:bx) (b:Nat) (H:Hp):Prop:= ∃a0 n0 H0 a1 n1 H1,ak (Fl.int .u8) 5 x.m.C a0 n0 H0/\ak (Fl.int .i64) 2 x.qA a1 n1 H1/\H=List.flatten [(cl b 167 [(ii x.m.W),(ii x.m.H),(ll a0 x.m.C n0),(ii x.bS),(ll a1 x.qA n1)]),H0,H1]
def nJ (x:dO) (b:Nat) (l0:Nat) (H:Hp):Prop:= ∃a0 n0 H0,gT Qw 217 x.parts a0 n0 H0/\H=List.flatten [(cl b 213 [(pp l0),(ll a0 x.parts n0),(ii x.clean),(uu x.count)]),H0]
def M0 (o:Option hJ) (l0:Nat) (l1:Nat) (v0:Value) (H:Hp):Prop:=match o with
 |none=>v0= .pointer none/\H=[]
 |some y=> ∃(b0:Nat) (a1 n1 H1:_),ak (Fl.int .i32) 21 y.aR a1 n1 H1/\v0=(pp b0)/\H=List.flatten [(cl b0 235 [(ii y.goal),(ii y.bS),(ll a1 y.aR n1)]),H1]
def u9 (x:ko) (b:Nat) (l0:Nat) (l1:Nat) (H:Hp):Prop:= ∃(v0:Value) (Ho:Hp),M0 x.kept l0 l1 v0 Ho/\H=List.flatten [(cl b 233 [(pp l0),(pp l1),v0,(uu x.count)]),Ho]
def vY (o:Option d_) (v0 v1 v2:Value) (H:Hp):Prop:=match o with
 |none=>v0= .pointer none/\v1= .pointer none/\v2= .pointer none/\H=[]
 |some y=> ∃(b0:Nat) (H0:Hp) (b1:Nat) (H1:Hp) (b2:Nat) (H2:Hp),iU y.ay b0 H0/\nJ y.iQ b1 b0 H1/\u9 y.jo b2 b1 b0 H2/\v0=(pp b0)/\v1=(pp b1)/\v2=(pp b2)/\H=List.flatten [H0,H1,H2]
def ie (x:cw) (b:Nat) (H:Hp):Prop:= ∃(b0:Nat) (H0:Hp) (v0 v1 v2:Value) (Ho:Hp),tV x.gd b0 H0/\vY x.core v0 v1 v2 Ho/\H=List.flatten [(cl b 135 [v0,v1,v2,(pp b0),(uu x.aW.bK),(uu x.aW.bL),(uu x.aW.bH),(uu x.aW.bG),(uu x.aW.bR),(uu x.aW.bM)]),H0,Ho]
@[reducible] def ZN (o : Option cw) (v : Value) (G : List Hp) : Prop := match o with
 |none=>v= .pointer none/\G=[]
 |some x=> ∃(b:Nat) (H:Hp),ie x b H/\v= .pointer (some ⟨b,0,none⟩)/\G=[H]
def mm (x:eK) (b:Nat) (H:Hp):Prop:= ∃(b0:Nat) (a1:Nat) (H1:Hp) (a2 n2 H2:_) (b3:Nat) (a4 n4 H4:_),de (Ky.int .i64 u3) (λx:aI=>Value.agg #[.int .i64 x.Id,.int .i64 x.Cell,.int .i64 x.Goal]) x.db.live a1 H1/\ak (Fl.int .i64) 3 x.db.order a2 n2 H2/\ak (Fl.int .u32) 65 x.floor.words a4 n4 H4/\H=List.flatten [(cl b 146 [(ii x.w),(ii x.h),(ii x.most),(pp b0),(pp b3)]),(cl b0 178 [(ii x.db.most),(ii x.db.next),(.map (some a1)),(ll a2 x.db.order n2)]),H1,H2,(cl b3 221 [(ll a4 x.floor.words n4),(ii x.floor.count)]),H4]
def Cu (o:Option eK) (v0:Value) (H:Hp):Prop:=match o with
 |none=>v0= .pointer none/\H=[]
 |some y=> ∃(b0:Nat) (H0:Hp),mm y b0 H0/\v0=(pp b0)/\H=List.flatten [H0]
def gh (x:bJ) (b:Nat) (H:Hp):Prop:= ∃(b0:Nat) (H0:Hp) (v0:Value) (Ho:Hp),ie x.nav b0 H0/\Cu x.eT v0 Ho/\H=List.flatten [(cl b 103 [(ii x.most),(pp b0),v0]),H0,Ho]
@[reducible] def RF (o : Option bJ) (v : Value) (G : List Hp) : Prop := match o with
 |none=>v= .pointer none/\G=[]
 |some x=> ∃(b:Nat) (H:Hp),gh x b H/\v= .pointer (some ⟨b,0,none⟩)/\G=[H]
@[reducible] def ZJ (o : Option bx) (v : Value) (G : List Hp) : Prop := match o with
 |none=>v= .pointer none/\G=[]
 |some x=> ∃(b:Nat) (H:Hp),iU x b H/\v= .pointer (some ⟨b,0,none⟩)/\G=[H]
@[reducible] def ZM (w0 : Nat) (o : Option dO) (v : Value) (G : List Hp) : Prop := match o with
 |none=>v= .pointer none/\G=[]
 |some x=> ∃(b:Nat) (H:Hp),nJ x b w0 H/\v= .pointer (some ⟨b,0,none⟩)/\G=[H]
@[reducible] def ZP (w0 : Nat) (w1 : Nat) (o : Option ko) (v : Value) (G : List Hp) : Prop := match o with
 |none=>v= .pointer none/\G=[]
 |some x=> ∃(b:Nat) (H:Hp),u9 x b w0 w1 H/\v= .pointer (some ⟨b,0,none⟩)/\G=[H]
@[reducible] def ZS (o : Option fC) (v : Value) (G : List Hp) : Prop := match o with
 |none=>v= .pointer none/\G=[]
 |some x=> ∃(b:Nat) (a0:Nat) (H0:Hp) (a1 n1 H1:_),de (Ky.int .i64 u3) (λx:aI=>Value.agg #[.int .i64 x.Id,.int .i64 x.Cell,.int .i64 x.Goal]) x.live a0 H0/\ak (Fl.int .i64) 3 x.order a1 n1 H1/\v= .pointer (some ⟨b,0,none⟩)/\G=[(cl b 178 [(ii x.most),(ii x.next),(.map (some a0)),(ll a1 x.order n1)]),H0,H1]
@[reducible] def ZI (o : Option fT) (v : Value) (G : List Hp) : Prop := match o with
 |none=>v= .pointer none/\G=[]
 |some x=> ∃(b:Nat) (a0 n0 H0:_),ak (Fl.int .u32) 65 x.words a0 n0 H0/\v= .pointer (some ⟨b,0,none⟩)/\G=[(cl b 221 [(ll a0 x.words n0),(ii x.count)]),H0]
@[reducible] def ZH (o : Option eK) (v : Value) (G : List Hp) : Prop := match o with
 |none=>v= .pointer none/\G=[]
 |some x=> ∃(b:Nat) (H:Hp),mm x b H/\v= .pointer (some ⟨b,0,none⟩)/\G=[H]
def kT (x:fa) (b:Nat) (H:Hp):Prop:=zm Yb [.int .i64 x.bc,.int .i64 x.len] x.buckets b 396 H/\List.length x.buckets=256
@[reducible] def ZO (o : Option fa) (v : Value) (G : List Hp) : Prop := match o with
 |none=>v= .pointer none/\G=[]
 |some x=> ∃(b:Nat) (H:Hp),kT x b H/\v= .pointer (some ⟨b,0,none⟩)/\G=[H]
@[reducible] def ZK (o : Option eW) (v : Value) (G : List Hp) : Prop := match o with
 |none=>v= .pointer none/\G=[]
 |some x=> ∃(b:Nat) (a0 n0 H0:_),ak fV 359 x.l a0 n0 H0/\v= .pointer (some ⟨b,0,none⟩)/\G=[(cl b 357 [(ll a0 x.l n0)]),H0]
@[reducible] def ZQ (o : Option hJ) (v : Value) (G : List Hp) : Prop := match o with
 |none=>v= .pointer none/\G=[]
 |some x=> ∃(b:Nat) (a0 n0 H0:_),ak (Fl.int .i32) 21 x.aR a0 n0 H0/\v= .pointer (some ⟨b,0,none⟩)/\G=[(cl b 235 [(ii x.goal),(ii x.bS),(ll a0 x.aR n0)]),H0]
def ZT (r:Option hJ) (x:ko) (b:Nat) (l0:Nat) (l1:Nat) (u:Value) (H:Hp):Prop:=match r with
 |none=>u= .pointer none/\u9 x b l0 l1 H
 |some y=>x.kept=some y/\ ∃(b0:Nat) (a1 n1 H1:_),ak (Fl.int .i32) 21 y.aR a1 n1 H1/\u= .pointer (some ⟨b0,0,none⟩)/\H=List.flatten [(cl b 233 [(pp l0),(pp l1),(pp b0),(uu x.count)]),List.flatten [(cl b0 235 [(ii y.goal),(ii y.bS),(ll a1 y.aR n1)]),H1]]
abbrev QR:=CR Tryz.prog
abbrev QU:=CU Tryz.prog
abbrev bm:=Value->List Hp->Prop
theorem dP {p:Prop} (h:p:=by first|rfl|(simp only[ll,List.length_set];rfl)):p:=h
end Go.Proofs.YthodkonhneebbaaGreatDoor
