/- Part of the proof. No condition. -/
import Derived.Test.YthodkonhneebbaaGreatDoorProg
import Derived.KernelRfl
import Derived.Test.YthodkonhneebbaaGreatDoorKWErrs
import Derived.Test.YthodkonhneebbaaGreatDoorKWHz
namespace Go.Proofs.YthodkonhneebbaaGreatDoor
open Go.Hx
set_option maxRecDepth 100000
set_option linter.unusedSimpArgs false
set_option linter.unusedVariables false
structure sL where
 Kind:Int
 A:Int
 B:Int
instance :Inhabited sL:=⟨⟨default,default,default⟩⟩
def GQ:Fl sL:=⟨3,λx=>[.int .i64 x.Kind,.int .i64 x.A,.int .i64 x.B],λ_=>rfl,λ_ v h=>by
 simp only[List.mem_cons,List.not_mem_nil,or_false] at h;rcases h with rfl |rfl |rfl<;>rfl,Nat.le_of_ble_eq_true rfl⟩
structure cS where
 Kind:Int
 A:Int
 B:Int
 Map:(List Int)
instance :Inhabited cS:=⟨⟨default,default,default,default⟩⟩
def Hn:Kd cS where
 size:=4
 own:=λx cs H=> ∃a0 n0 H0,aj (Fl.int .u8) 5 x.Map a0 n0 H0/\cs=[.int .i64 x.Kind,.int .i64 x.A,.int .i64 x.B,.slice a0 (List.length x.Map) n0]/\H=List.flatten [H0]
 na:=λx cs H=> ∃(a0:Option Addr) (n0:Nat),(aU (Fl.int .u8) x.Map a0 H/\List.length x.Map<=n0)/\cs=[.int .i64 x.Kind,.int .i64 x.A,.int .i64 x.B,.slice a0 (List.length x.Map) n0]
 len:=by
  rintro x cs H ⟨a0,n0,H0,s0,rfl,rfl⟩
  rfl
 plain:=by
  rintro x cs H ⟨a0,n0,H0,s0,rfl,rfl⟩ v hv;simp only[List.mem_cons,List.not_mem_nil,or_false] at hv;rcases hv with rfl |rfl |rfl |rfl<;>rfl
 r:=by
  rintro x cs H ⟨a0,n0,H0,s0,rfl,rfl⟩;exact⟨a0,n0,⟨s0.r.mono (λc hc=>gW (HL:=[H0]) (j:=0) rfl hc),s0.bW⟩,rfl⟩
 mono:=by
  rintro x cs H H' ⟨a0,n0,⟨r0,c0⟩,rfl⟩ hs;exact⟨a0,n0,⟨r0.mono hs,c0⟩,rfl⟩
 pos:=by decide
structure aM where
 W:Int
 H:Int
 C:(List Int)
instance :Inhabited aM:=⟨⟨default,default,default⟩⟩
structure br where
 key:(Int×Int)
 cJ:Int
 a_:Int
instance :Inhabited br:=⟨⟨default,default,default⟩⟩
def kH:Fl br:=⟨4,λx=>[.int .i64 x.key.1,.int .i64 x.key.2,.int .i64 x.cJ,.int .i64 x.a_],λ_=>rfl,λ_ v h=>by
 simp only[List.mem_cons,List.not_mem_nil,or_false] at h;rcases h with rfl |rfl |rfl |rfl<;>rfl,Nat.le_of_ble_eq_true rfl⟩
structure fT where
 k:Int
 ak:(List br)
 eP:(List ((Int×Int)×Int))
 cA:Int
 di:Int
instance :Inhabited fT:=⟨⟨default,default,default,default,default⟩⟩
structure ba where
 Cell:Int
 cL:Int
 Key:Int
instance :Inhabited ba:=⟨⟨default,default,default⟩⟩
def cH:Fl ba:=⟨3,λx=>[.int .i64 x.Cell,.int .i64 x.cL,.int .i64 x.Key],λ_=>rfl,λ_ v h=>by
 simp only[List.mem_cons,List.not_mem_nil,or_false] at h;rcases h with rfl |rfl |rfl<;>rfl,Nat.le_of_ble_eq_true rfl⟩
structure fQ where
 eW:(List Int)
 cx:(List Int)
instance :Inhabited fQ:=⟨⟨default,default⟩⟩
structure qm where
 version:Int
 tv:(List ba)
 field:fQ
instance :Inhabited qm:=⟨⟨default,default,default⟩⟩
structure fx where
 bB:Int
 bw:Int
 bk:Int
 bn:Int
 bF:Int
 bE:Int
instance :Inhabited fx:=⟨⟨default,default,default,default,default,default⟩⟩
structure ju where
 keys:fT
 fields:(List qm)
 count:fx
instance :Inhabited ju:=⟨⟨default,default,default⟩⟩
def EB:Kd qm where
 size:=4
 own:=λx cs H=> ∃a0 n0 H0 a1 n1 H1 a2 n2 H2,aj cH 285 x.tv a0 n0 H0/\aj (Fl.int .i64) 3 x.field.eW a1 n1 H1/\aj (Fl.int .i64) 3 x.field.cx a2 n2 H2/\cs=[.int .i64 x.version,.slice a0 (List.length x.tv) n0,.slice a1 (List.length x.field.eW) n1,.slice a2 (List.length x.field.cx) n2]/\H=List.flatten [H0,H1,H2]
 na:=λx cs H=> ∃(a0:Option Addr) (n0:Nat) (a1:Option Addr) (n1:Nat) (a2:Option Addr) (n2:Nat),(aU cH x.tv a0 H/\List.length x.tv<=n0)/\(aU (Fl.int .i64) x.field.eW a1 H/\List.length x.field.eW<=n1)/\(aU (Fl.int .i64) x.field.cx a2 H/\List.length x.field.cx<=n2)/\cs=[.int .i64 x.version,.slice a0 (List.length x.tv) n0,.slice a1 (List.length x.field.eW) n1,.slice a2 (List.length x.field.cx) n2]
 len:=by
  rintro x cs H ⟨a0,n0,H0,a1,n1,H1,a2,n2,H2,s0,s1,s2,rfl,rfl⟩
  rfl
 plain:=by
  rintro x cs H ⟨a0,n0,H0,a1,n1,H1,a2,n2,H2,s0,s1,s2,rfl,rfl⟩ v hv;simp only[List.mem_cons,List.not_mem_nil,or_false] at hv;rcases hv with rfl |rfl |rfl |rfl<;>rfl
 r:=by
  rintro x cs H ⟨a0,n0,H0,a1,n1,H1,a2,n2,H2,s0,s1,s2,rfl,rfl⟩;exact⟨a0,n0,a1,n1,a2,n2,⟨s0.r.mono (λc hc=>gW (HL:=[H0,H1,H2]) (j:=0) rfl hc),s0.bW⟩,⟨s1.r.mono (λc hc=>gW (HL:=[H0,H1,H2]) (j:=1) rfl hc),s1.bW⟩,⟨s2.r.mono (λc hc=>gW (HL:=[H0,H1,H2]) (j:=2) rfl hc),s2.bW⟩,rfl⟩
 mono:=by
  rintro x cs H H' ⟨a0,n0,a1,n1,a2,n2,⟨r0,c0⟩,⟨r1,c1⟩,⟨r2,c2⟩,rfl⟩ hs;exact⟨a0,n0,a1,n1,a2,n2,⟨r0.mono hs,c0⟩,⟨r1.mono hs,c1⟩,⟨r2.mono hs,c2⟩,rfl⟩
 pos:=by decide
structure bA where
 m:aM
 bN:Int
 pQ:(List Int)
instance :Inhabited bA:=⟨⟨default,default,default⟩⟩
structure pB where
 version:Int
 nodes:(List Int)
 aP:(List Int)
instance :Inhabited pB:=⟨⟨default,default,default⟩⟩
structure dJ where
 parts:(List pB)
 clean:Int
 count:Int
instance :Inhabited dJ:=⟨⟨default,default,default⟩⟩
structure gZ where
 goal:Int
 bN:Int
 aP:(List Int)
instance :Inhabited gZ:=⟨⟨default,default,default⟩⟩
structure kc where
 kept:(Option gZ)
 count:Int
instance :Inhabited kc:=⟨⟨default,default⟩⟩
structure dK where
 ay:bA
 fZ:dJ
 gJ:kc
instance :Inhabited dK:=⟨⟨default,default,default⟩⟩
structure bQ where
 core:(Option dK)
 cz:ju
 aV:fx
instance :Inhabited bQ:=⟨⟨default,default,default⟩⟩
def OV:Kd pB where
 size:=3
 own:=λx cs H=> ∃a0 n0 H0 a1 n1 H1,aj (Fl.int .i64) 3 x.nodes a0 n0 H0/\aj (Fl.int .i32) 21 x.aP a1 n1 H1/\cs=[.int .i64 x.version,.slice a0 (List.length x.nodes) n0,.slice a1 (List.length x.aP) n1]/\H=List.flatten [H0,H1]
 na:=λx cs H=> ∃(a0:Option Addr) (n0:Nat) (a1:Option Addr) (n1:Nat),(aU (Fl.int .i64) x.nodes a0 H/\List.length x.nodes<=n0)/\(aU (Fl.int .i32) x.aP a1 H/\List.length x.aP<=n1)/\cs=[.int .i64 x.version,.slice a0 (List.length x.nodes) n0,.slice a1 (List.length x.aP) n1]
 len:=by
  rintro x cs H ⟨a0,n0,H0,a1,n1,H1,s0,s1,rfl,rfl⟩
  rfl
 plain:=by
  rintro x cs H ⟨a0,n0,H0,a1,n1,H1,s0,s1,rfl,rfl⟩ v hv;simp only[List.mem_cons,List.not_mem_nil,or_false] at hv;rcases hv with rfl |rfl |rfl<;>rfl
 r:=by
  rintro x cs H ⟨a0,n0,H0,a1,n1,H1,s0,s1,rfl,rfl⟩;exact⟨a0,n0,a1,n1,⟨s0.r.mono (λc hc=>gW (HL:=[H0,H1]) (j:=0) rfl hc),s0.bW⟩,⟨s1.r.mono (λc hc=>gW (HL:=[H0,H1]) (j:=1) rfl hc),s1.bW⟩,rfl⟩
 mono:=by
  rintro x cs H H' ⟨a0,n0,a1,n1,⟨r0,c0⟩,⟨r1,c1⟩,rfl⟩ hs;exact⟨a0,n0,a1,n1,⟨r0.mono hs,c0⟩,⟨r1.mono hs,c1⟩,rfl⟩
 pos:=by decide
structure aD where
 Id:Int
 Cell:Int
 Goal:Int
instance :Inhabited aD:=⟨⟨default,default,default⟩⟩
def lL:Fl aD:=⟨3,λx=>[.int .i64 x.Id,.int .i64 x.Cell,.int .i64 x.Goal],λ_=>rfl,λ_ v h=>by
 simp only[List.mem_cons,List.not_mem_nil,or_false] at h;rcases h with rfl |rfl |rfl<;>rfl,Nat.le_of_ble_eq_true rfl⟩
structure fb where
 most:Int
 next:Int
 live:(List (Int×aD))
 order:(List Int)
instance :Inhabited fb:=⟨⟨default,default,default,default⟩⟩
structure fJ where
 words:(List Int)
 count:Int
instance :Inhabited fJ:=⟨⟨default,default⟩⟩
structure eA where
 w:Int
 h:Int
 most:Int
 cP:fb
 floor:fJ
instance :Inhabited eA:=⟨⟨default,default,default,default,default⟩⟩
structure bT where
 most:Int
 nav:bQ
 eZ:(Option eA)
instance :Inhabited bT:=⟨⟨default,default,default⟩⟩
structure b_ where
 Goal:Int
 eX:Int
 cU:(List Int)
instance :Inhabited b_:=⟨⟨default,default,default⟩⟩
def pG:Kd b_ where
 size:=3
 own:=λx cs H=> ∃a0 n0 H0,aj (Fl.int .i64) 3 x.cU a0 n0 H0/\cs=[.int .i64 x.Goal,.int .i64 x.eX,.slice a0 (List.length x.cU) n0]/\H=List.flatten [H0]
 na:=λx cs H=> ∃(a0:Option Addr) (n0:Nat),(aU (Fl.int .i64) x.cU a0 H/\List.length x.cU<=n0)/\cs=[.int .i64 x.Goal,.int .i64 x.eX,.slice a0 (List.length x.cU) n0]
 len:=by
  rintro x cs H ⟨a0,n0,H0,s0,rfl,rfl⟩
  rfl
 plain:=by
  rintro x cs H ⟨a0,n0,H0,s0,rfl,rfl⟩ v hv;simp only[List.mem_cons,List.not_mem_nil,or_false] at hv;rcases hv with rfl |rfl |rfl<;>rfl
 r:=by
  rintro x cs H ⟨a0,n0,H0,s0,rfl,rfl⟩;exact⟨a0,n0,⟨s0.r.mono (λc hc=>gW (HL:=[H0]) (j:=0) rfl hc),s0.bW⟩,rfl⟩
 mono:=by
  rintro x cs H H' ⟨a0,n0,⟨r0,c0⟩,rfl⟩ hs;exact⟨a0,n0,⟨r0.mono hs,c0⟩,rfl⟩
 pos:=by decide
structure ff where
 Id:Int
 To:Int
instance :Inhabited ff:=⟨⟨default,default⟩⟩
def jJ:Fl ff:=⟨2,λx=>[.int .i64 x.Id,.int .i64 x.To],λ_=>rfl,λ_ v h=>by
 simp only[List.mem_cons,List.not_mem_nil,or_false] at h;rcases h with rfl |rfl<;>rfl,Nat.le_of_ble_eq_true rfl⟩
structure iX where
 Code:Int
 D:Int
 cx:Int
 Id:Int
 dQ:(List ff)
 gR:(List Int)
 Stats:fx
instance :Inhabited iX:=⟨⟨default,default,default,default,default,default,default⟩⟩
structure AZ where
 a:Int
 b:Int
 load:Bool
instance :Inhabited AZ:=⟨⟨default,default,default⟩⟩
structure eV where
 b:(List Int)
 bc:Int
instance :Inhabited eV:=⟨⟨default,default⟩⟩
structure jW where
 items:(List Int)
 gone:Int
instance :Inhabited jW:=⟨⟨default,default⟩⟩
def Wt:Kd jW where
 size:=2
 own:=λx cs H=> ∃a0 n0 H0,aj (Fl.int .i64) 3 x.items a0 n0 H0/\cs=[.slice a0 (List.length x.items) n0,.int .i64 x.gone]/\H=List.flatten [H0]
 na:=λx cs H=> ∃(a0:Option Addr) (n0:Nat),(aU (Fl.int .i64) x.items a0 H/\List.length x.items<=n0)/\cs=[.slice a0 (List.length x.items) n0,.int .i64 x.gone]
 len:=by
  rintro x cs H ⟨a0,n0,H0,s0,rfl,rfl⟩
  rfl
 plain:=by
  rintro x cs H ⟨a0,n0,H0,s0,rfl,rfl⟩ v hv;simp only[List.mem_cons,List.not_mem_nil,or_false] at hv;rcases hv with rfl |rfl<;>rfl
 r:=by
  rintro x cs H ⟨a0,n0,H0,s0,rfl,rfl⟩;exact⟨a0,n0,⟨s0.r.mono (λc hc=>gW (HL:=[H0]) (j:=0) rfl hc),s0.bW⟩,rfl⟩
 mono:=by
  rintro x cs H H' ⟨a0,n0,⟨r0,c0⟩,rfl⟩ hs;exact⟨a0,n0,⟨r0.mono hs,c0⟩,rfl⟩
 pos:=by decide
structure eK where
 bc:Int
 len:Int
 buckets:(List jW)
instance :Inhabited eK:=⟨⟨default,default,default⟩⟩
def ET:List Int:=[0,1,2,2,3,3,3,3,4,4,4,4,4,4,4,4,5,5,5,5,5,5,5,5,5,5,5,5,5,5,5,5,6,6,6,6,6,6,6,6,6,6,6,6,6,6,6,6,6,6,6,6,6,6,6,6,6,6,6,6,6,6,6,6,7,7,7,7,7,7,7,7,7,7,7,7,7,7,7,7,7,7,7,7,7,7,7,7,7,7,7,7,7,7,7,7,7,7,7,7,7,7,7,7,7,7,7,7,7,7,7,7,7,7,7,7,7,7,7,7,7,7,7,7,7,7,7,7,8,8,8,8,8,8,8,8,8,8,8,8,8,8,8,8,8,8,8,8,8,8,8,8,8,8,8,8,8,8,8,8,8,8,8,8,8,8,8,8,8,8,8,8,8,8,8,8,8,8,8,8,8,8,8,8,8,8,8,8,8,8,8,8,8,8,8,8,8,8,8,8,8,8,8,8,8,8,8,8,8,8,8,8,8,8,8,8,8,8,8,8,8,8,8,8,8,8,8,8,8,8,8,8,8,8,8,8,8,8,8,8,8,8,8,8,8,8,8,8,8,8,8,8,8,8,8,8]
structure de where
 t:aM
 wait:eK
 todo:(List ba)
 aP:(List Int)
instance :Inhabited de:=⟨⟨default,default,default,default⟩⟩
structure dO where
 key:Int
 item:Int
instance :Inhabited dO:=⟨⟨default,default⟩⟩
def fL:Fl dO:=⟨2,λx=>[.int .i64 x.key,.int .i64 x.item],λ_=>rfl,λ_ v h=>by
 simp only[List.mem_cons,List.not_mem_nil,or_false] at h;rcases h with rfl |rfl<;>rfl,Nat.le_of_ble_eq_true rfl⟩
structure eT where
 l:(List dO)
instance :Inhabited eT:=⟨⟨default⟩⟩
structure ek where
 To:Int
 kS:Int
instance :Inhabited ek:=⟨⟨default,default⟩⟩
def pz:Fl ek:=⟨2,λx=>[.int .i64 x.To,.int .i64 x.kS],λ_=>rfl,λ_ v h=>by
 simp only[List.mem_cons,List.not_mem_nil,or_false] at h;rcases h with rfl |rfl<;>rfl,Nat.le_of_ble_eq_true rfl⟩
structure De where
 t:aM
 l:(List ba)
 aP:(List Int)
instance :Inhabited De:=⟨⟨default,default,default⟩⟩
structure mC where
 w:Int
 h:Int
 j3:(List (Int×Bool))
 kI:(List ff)
 gone:(List Int)
instance :Inhabited mC:=⟨⟨default,default,default,default,default⟩⟩
def fA (n : String) (t o b : Nat) : Field := ⟨n, t, o, false, "", "", b⟩
def bY (n : String) (t o b : Nat) (p : String) : Field := ⟨n, t, o, false, "", p, b⟩
theorem aL {P : Program} {f : FuncId} {fn : Func} (h : P.funcs[f]? = some fn) (a : (fn.name == "runtime.NumGoroutine") = false := by kernel_rfl) (b : fn.body.isNone = false := by kernel_rfl) : Has P f := ⟨⟨fn, h, a, b⟩⟩
theorem all_map {α β:Type} {g:Nat->β} {k:α->β}: ∀{l:List (Nat×α)},l.map (λe=>g e.1)=l.map (λe=>k e.2)->E7 (λt d=>g t=k d) l
 |[],_=>trivial
 |_::_,h=>⟨(List.cons.inj h).1,all_map (List.cons.inj h).2⟩
def Ty.om {P:Program} (us:List (Nat×TypeDesc)) (is:List (Nat×(Nat×Nat×Value))) (hu:us.map (λe=>P.underlying e.1)=us.map (λe=>some e.2):=by kernel_rfl)
 (hi:is.map (λe=>(P.info? e.1).map λi=>(i.size,i.bytes,i.zero))=is.map (λe=>some (e.2.1,e.2.2.1,some e.2.2.2)):=by kernel_rfl):Ty P:=
 Ty.of us is (all_map hu) (all_map (k:=λd:Nat×Nat×Value=>some (d.1,d.2.1,some d.2.2)) hi)
theorem u3:Tryz.prog.underlying 3=some (.int .i64):=az
theorem lQ:Tryz.prog.underlying 76=some (.array 2 3):=az
noncomputable def T : Ty Tryz.prog := Ty.om [(2, .int .i64), (3, .int .i64), (4, .bool), (5, .int .u8), (9, .string), (21, .int .i32), (22, .slice 5), (23, .slice 97), (24, .slice 3), (25, .pointer 103), (30, .struct #[(fA "W" 3 0 0), (fA "H" 3 1 8), (fA "C" 22 2 16)]), (40, .slice 55), (43, .slice 4), (44, .int .u64), (46, .struct #[(fA "Rebuilds" 44 0 0), (fA "Searches" 44 1 8), (fA "Builds" 44 2 16), (fA "Hits" 44 3 24), (fA "Stale" 44 4 32), (fA "Evicts" 44 5 40)]), (48, .slice 67), (50, .slice 94), (52, .struct #[(fA "Code" 3 0 0), (fA "D" 3 1 8), (fA "Dir" 3 2 16), (fA "Id" 3 3 24), (fA "Moves" 50 4 32), (fA "Gone" 24 5 56), (fA "Stats" 46 6 80)]), (55, .struct #[(fA "Kind" 3 0 0), (fA "A" 3 1 8), (fA "B" 3 2 16), (fA "Map" 22 3 24)]), (59, .slice 120), (63, .slice 65), (65, .int .u32), (67, .struct #[(fA "Id" 3 0 0), (fA "Cell" 3 1 8), (fA "Goal" 3 2 16)]), (76, .array 2 3), (79, .struct #[(fA "Dist" 24 0 0), (fA "Dir" 24 1 24)]), (88, .pointer 135), (94, .struct #[(fA "Id" 3 0 0), (fA "To" 3 1 8)]), (97, .struct #[(fA "Kind" 3 0 0), (fA "A" 3 1 8), (fA "B" 3 2 16)]), (101, .pointer 146), (103, .struct #[(bY "most" 3 0 0 "herdsman/svc"), (bY "nav" 88 1 8 "herdsman/svc"), (bY "crowd" 101 2 16 "herdsman/svc")]), (106, .interface #[("Error", 415)]), (110, .pointer 112), (112, .struct #[(bY "kind" 3 0 0 "herdsman/svc"), (bY "of" 106 1 8 "herdsman/svc")]), (117, .map 3 59), (118, .map 76 3), (120, .struct #[(fA "Goal" 3 0 0), (fA "Sector" 3 1 8), (fA "Ids" 24 2 16)]), (122, .map 3 4), (123, .array 6 44), (130, .pointer 167), (131, .pointer 213), (132, .pointer 233), (133, .pointer 173), (135, .struct #[(bY "grid" 130 0 0 "herdsman/nav"), (bY "mesh" 131 1 8 "herdsman/nav"), (bY "finder" 132 2 16 "herdsman/nav"), (bY "shelf" 133 3 24 "herdsman/nav"), (bY "past" 46 4 32 "herdsman/nav")]), (136, .int .u64), (139, .struct #[(fA "W" 3 0 0), (fA "H" 3 1 8), (fA "C" 22 2 16)]), (143, .pointer 178), (144, .pointer 221), (146, .struct #[(bY "w" 3 0 0 "herdsman/crowd"), (bY "h" 3 1 8 "herdsman/crowd"), (bY "most" 3 2 16 "herdsman/crowd"), (bY "units" 143 3 24 "herdsman/crowd"), (bY "floor" 144 4 32 "herdsman/crowd")]), (148, .int .i64), (160, .pointer 148), (165, .slice 2), (167, .struct #[(bY "m" 30 0 0 "herdsman/grid"), (bY "epoch" 2 3 40 "herdsman/grid"), (bY "versions" 165 4 48 "herdsman/grid")]), (169, .pointer 238), (171, .slice 291), (173, .struct #[(bY "keys" 169 0 0 "herdsman/shelf"), (bY "fields" 171 1 8 "herdsman/shelf"), (bY "count" 46 2 32 "herdsman/shelf")]), (176, .map 3 67), (178, .struct #[(bY "most" 3 0 0 "herdsman/units"), (bY "next" 3 1 8 "herdsman/units"), (bY "live" 176 2 16 "herdsman/units"), (bY "order" 24 3 24 "herdsman/units")]), (180, .struct #[(bY "a" 3 0 0 "herdsman/op"), (bY "b" 3 1 8 "herdsman/op"), (bY "load" 4 2 16 "herdsman/op")]), (211, .slice 217), (213, .struct #[(bY "g" 130 0 0 "herdsman/mesh"), (bY "parts" 211 1 8 "herdsman/mesh"), (bY "clean" 2 2 32 "herdsman/mesh"), (bY "count" 44 3 40 "herdsman/mesh")]), (215, .slice 21), (217, .struct #[(bY "version" 2 0 0 "herdsman/mesh"), (bY "nodes" 24 1 8 "herdsman/mesh"), (bY "dist" 215 2 32 "herdsman/mesh")]), (221, .struct #[(bY "words" 63 0 0 "herdsman/floor"), (bY "count" 3 1 24 "herdsman/floor")]), (222, .pointer 224), (224, .struct #[(bY "goal" 3 0 0 "herdsman/nav"), (bY "of" 106 1 8 "herdsman/nav")]), (227, .slice 285), (229, .pointer 235), (233, .struct #[(bY "m" 131 0 0 "herdsman/route"), (bY "g" 130 1 8 "herdsman/route"), (bY "kept" 229 2 16 "herdsman/route"), (bY "count" 44 3 24 "herdsman/route")]), (235, .struct #[(bY "goal" 3 0 0 "herdsman/route"), (bY "epoch" 2 1 8 "herdsman/route"), (bY "dist" 215 2 16 "herdsman/route")]), (236, .slice 278), (238, .struct #[(bY "k" 3 0 0 "herdsman/lru"), (bY "seats" 236 1 8 "herdsman/lru"), (bY "slots" 118 2 32 "herdsman/lru"), (bY "newest" 3 3 40 "herdsman/lru"), (bY "oldest" 3 4 48 "herdsman/lru")]), (243, .int .i64), (244, .pointer 243), (258, .map 3 3), (278, .struct #[(bY "key" 76 0 0 "herdsman/lru"), (bY "newer" 3 2 16 "herdsman/lru"), (bY "old" 3 3 24 "herdsman/lru")]), (280, .slice 283), (283, .struct #[(fA "To" 3 0 0), (fA "Cost" 3 1 8)]), (285, .struct #[(fA "Cell" 3 0 0), (fA "Side" 3 1 8), (fA "Key" 3 2 16)]), (291, .struct #[(bY "version" 2 0 0 "herdsman/shelf"), (bY "seeds" 227 1 8 "herdsman/shelf"), (bY "field" 79 2 32 "herdsman/shelf")]), (301, .pointer 303), (303, .struct #[(bY "sector" 3 0 0 "herdsman/atlas"), (bY "of" 106 1 8 "herdsman/atlas")]), (309, .struct #[(bY "w" 3 0 0 "herdsman/march"), (bY "h" 3 1 8 "herdsman/march"), (bY "stand" 122 2 16 "herdsman/march"), (bY "moves" 50 3 24 "herdsman/march"), (bY "gone" 24 4 48 "herdsman/march")]), (314, .array 4 3), (320, .pointer 357), (337, .struct #[(bY "t" 139 0 0 "herdsman/steer"), (bY "l" 227 3 40 "herdsman/steer"), (bY "dist" 24 4 64 "herdsman/steer")]), (340, .struct #[(bY "b" 22 0 0 "herdsman/pack"), (bY "at" 3 1 24 "herdsman/pack")]), (343, .pointer 346), (344, .pointer 343), (346, .struct #[(bY "at" 3 0 0 "herdsman/pack"), (bY "code" 3 1 8 "herdsman/pack"), (bY "of" 106 2 16 "herdsman/pack")]), (355, .slice 359), (357, .struct #[(bY "l" 355 0 0 "herdsman/heap")]), (359, .struct #[(bY "key" 3 0 0 "herdsman/heap"), (bY "item" 3 1 8 "herdsman/heap")]), (360, .pointer 217), (365, .pointer 396), (369, .struct #[(bY "t" 139 0 0 "herdsman/sweep"), (bY "wait" 365 3 40 "herdsman/sweep"), (bY "todo" 227 4 48 "herdsman/sweep"), (bY "dist" 24 5 72 "herdsman/sweep")]), (393, .struct #[(bY "items" 24 0 0 "herdsman/ring"), (bY "gone" 3 1 24 "herdsman/ring")]), (394, .array 256 393), (396, .struct #[(bY "at" 3 0 0 "herdsman/ring"), (bY "len" 3 1 8 "herdsman/ring"), (bY "buckets" 394 2 16 "herdsman/ring")])]
 [(2,(1,8,(ii 0))),(3,(1,8,(ii 0))),(4,(1,1,(bb false))),(5,(1,1,(.int .u8 0))),(21,(1,4,(.int .i32 0))),(22,(1,24,nl)),(24,(1,24,nl)),(30,(3,40,(.agg #[(ii 0),(ii 0),nl]))),(44,(1,8,(uu 0))),(46,(6,48,(.agg #[(uu 0),(uu 0),(uu 0),(uu 0),(uu 0),(uu 0)]))),(50,(1,24,nl)),(52,(12,128,(.agg #[(ii 0),(ii 0),(ii 0),(ii 0),nl,nl,(uu 0),(uu 0),(uu 0),(uu 0),(uu 0),(uu 0)]))),(55,(4,48,(.agg #[(ii 0),(ii 0),(ii 0),nl]))),(59,(1,24,nl)),(63,(1,24,nl)),(65,(1,4,(.int .u32 0))),(67,(3,24,(.agg #[(ii 0),(ii 0),(ii 0)]))),(76,(2,16,(.agg #[(ii 0),(ii 0)]))),(79,(2,48,(.agg #[nl,nl]))),(88,(1,8,(.pointer none))),(94,(2,16,(.agg #[(ii 0),(ii 0)]))),(97,(3,24,(.agg #[(ii 0),(ii 0),(ii 0)]))),(101,(1,8,(.pointer none))),(103,(3,24,(.agg #[(ii 0),(.pointer none),(.pointer none)]))),(106,(1,16,.nilIface)),(112,(2,24,(.agg #[(ii 0),.nilIface]))),(118,(1,8,(.map none))),(120,(3,40,(.agg #[(ii 0),(ii 0),nl]))),(122,(1,8,(.map none))),(123,(6,48,(.agg #[(uu 0),(uu 0),(uu 0),(uu 0),(uu 0),(uu 0)]))),(130,(1,8,(.pointer none))),(131,(1,8,(.pointer none))),(132,(1,8,(.pointer none))),(133,(1,8,(.pointer none))),(135,(10,80,(.agg #[(.pointer none),(.pointer none),(.pointer none),(.pointer none),(uu 0),(uu 0),(uu 0),(uu 0),(uu 0),(uu 0)]))),(139,(3,40,(.agg #[(ii 0),(ii 0),nl]))),(143,(1,8,(.pointer none))),(144,(1,8,(.pointer none))),(146,(5,40,(.agg #[(ii 0),(ii 0),(ii 0),(.pointer none),(.pointer none)]))),(148,(1,8,(ii 0))),(165,(1,24,nl)),(167,(5,72,(.agg #[(ii 0),(ii 0),nl,(ii 0),nl]))),(169,(1,8,(.pointer none))),(171,(1,24,nl)),(173,(8,80,(.agg #[(.pointer none),nl,(uu 0),(uu 0),(uu 0),(uu 0),(uu 0),(uu 0)]))),(176,(1,8,(.map none))),(178,(4,48,(.agg #[(ii 0),(ii 0),(.map none),nl]))),(180,(3,24,(.agg #[(ii 0),(ii 0),(bb false)]))),(211,(1,24,nl)),(213,(4,48,(.agg #[(.pointer none),nl,(ii 0),(uu 0)]))),(215,(1,24,nl)),(217,(3,56,(.agg #[(ii 0),nl,nl]))),(221,(2,32,(.agg #[nl,(ii 0)]))),(224,(2,24,(.agg #[(ii 0),.nilIface]))),(227,(1,24,nl)),(229,(1,8,(.pointer none))),(233,(4,32,(.agg #[(.pointer none),(.pointer none),(.pointer none),(uu 0)]))),(235,(3,40,(.agg #[(ii 0),(ii 0),nl]))),(236,(1,24,nl)),(238,(5,56,(.agg #[(ii 0),nl,(.map none),(ii 0),(ii 0)]))),(243,(1,8,(ii 0))),(278,(4,32,(.agg #[(ii 0),(ii 0),(ii 0),(ii 0)]))),(283,(2,16,(.agg #[(ii 0),(ii 0)]))),(285,(3,24,(.agg #[(ii 0),(ii 0),(ii 0)]))),(291,(4,80,(.agg #[(ii 0),nl,nl,nl]))),(303,(2,24,(.agg #[(ii 0),.nilIface]))),(309,(5,72,(.agg #[(ii 0),(ii 0),(.map none),nl,nl]))),(314,(4,32,(.agg #[(ii 0),(ii 0),(ii 0),(ii 0)]))),(337,(5,88,(.agg #[(ii 0),(ii 0),nl,nl,nl]))),(340,(2,32,(.agg #[nl,(ii 0)]))),(343,(1,8,(.pointer none))),(346,(3,32,(.agg #[(ii 0),(ii 0),.nilIface]))),(355,(1,24,nl)),(357,(1,24,(.agg #[nl]))),(359,(2,16,(.agg #[(ii 0),(ii 0)]))),(365,(1,8,(.pointer none))),(369,(6,96,(.agg #[(ii 0),(ii 0),nl,(.pointer none),nl,nl]))),(393,(2,32,(.agg #[nl,(ii 0)]))),(394,(512,8192,(.agg #[nl,(ii 0),nl,(ii 0),nl,(ii 0),nl,(ii 0),nl,(ii 0),nl,(ii 0),nl,(ii 0),nl,(ii 0),nl,(ii 0),nl,(ii 0),nl,(ii 0),nl,(ii 0),nl,(ii 0),nl,(ii 0),nl,(ii 0),nl,(ii 0),nl,(ii 0),nl,(ii 0),nl,(ii 0),nl,(ii 0),nl,(ii 0),nl,(ii 0),nl,(ii 0),nl,(ii 0),nl,(ii 0),nl,(ii 0),nl,(ii 0),nl,(ii 0),nl,(ii 0),nl,(ii 0),nl,(ii 0),nl,(ii 0),nl,(ii 0),nl,(ii 0),nl,(ii 0),nl,(ii 0),nl,(ii 0),nl,(ii 0),nl,(ii 0),nl,(ii 0),nl,(ii 0),nl,(ii 0),nl,(ii 0),nl,(ii 0),nl,(ii 0),nl,(ii 0),nl,(ii 0),nl,(ii 0),nl,(ii 0),nl,(ii 0),nl,(ii 0),nl,(ii 0),nl,(ii 0),nl,(ii 0),nl,(ii 0),nl,(ii 0),nl,(ii 0),nl,(ii 0),nl,(ii 0),nl,(ii 0),nl,(ii 0),nl,(ii 0),nl,(ii 0),nl,(ii 0),nl,(ii 0),nl,(ii 0),nl,(ii 0),nl,(ii 0),nl,(ii 0),nl,(ii 0),nl,(ii 0),nl,(ii 0),nl,(ii 0),nl,(ii 0),nl,(ii 0),nl,(ii 0),nl,(ii 0),nl,(ii 0),nl,(ii 0),nl,(ii 0),nl,(ii 0),nl,(ii 0),nl,(ii 0),nl,(ii 0),nl,(ii 0),nl,(ii 0),nl,(ii 0),nl,(ii 0),nl,(ii 0),nl,(ii 0),nl,(ii 0),nl,(ii 0),nl,(ii 0),nl,(ii 0),nl,(ii 0),nl,(ii 0),nl,(ii 0),nl,(ii 0),nl,(ii 0),nl,(ii 0),nl,(ii 0),nl,(ii 0),nl,(ii 0),nl,(ii 0),nl,(ii 0),nl,(ii 0),nl,(ii 0),nl,(ii 0),nl,(ii 0),nl,(ii 0),nl,(ii 0),nl,(ii 0),nl,(ii 0),nl,(ii 0),nl,(ii 0),nl,(ii 0),nl,(ii 0),nl,(ii 0),nl,(ii 0),nl,(ii 0),nl,(ii 0),nl,(ii 0),nl,(ii 0),nl,(ii 0),nl,(ii 0),nl,(ii 0),nl,(ii 0),nl,(ii 0),nl,(ii 0),nl,(ii 0),nl,(ii 0),nl,(ii 0),nl,(ii 0),nl,(ii 0),nl,(ii 0),nl,(ii 0),nl,(ii 0),nl,(ii 0),nl,(ii 0),nl,(ii 0),nl,(ii 0),nl,(ii 0),nl,(ii 0),nl,(ii 0),nl,(ii 0),nl,(ii 0),nl,(ii 0),nl,(ii 0),nl,(ii 0),nl,(ii 0),nl,(ii 0),nl,(ii 0),nl,(ii 0),nl,(ii 0),nl,(ii 0),nl,(ii 0),nl,(ii 0),nl,(ii 0),nl,(ii 0),nl,(ii 0),nl,(ii 0),nl,(ii 0),nl,(ii 0),nl,(ii 0),nl,(ii 0),nl,(ii 0),nl,(ii 0),nl,(ii 0),nl,(ii 0),nl,(ii 0),nl,(ii 0),nl,(ii 0),nl,(ii 0),nl,(ii 0),nl,(ii 0),nl,(ii 0),nl,(ii 0),nl,(ii 0),nl,(ii 0),nl,(ii 0),nl,(ii 0),nl,(ii 0),nl,(ii 0),nl,(ii 0),nl,(ii 0),nl,(ii 0),nl,(ii 0),nl,(ii 0),nl,(ii 0),nl,(ii 0),nl,(ii 0),nl,(ii 0),nl,(ii 0),nl,(ii 0),nl,(ii 0),nl,(ii 0),nl,(ii 0),nl,(ii 0),nl,(ii 0),nl,(ii 0),nl,(ii 0),nl,(ii 0),nl,(ii 0),nl,(ii 0),nl,(ii 0),nl,(ii 0),nl,(ii 0),nl,(ii 0),nl,(ii 0),nl,(ii 0),nl,(ii 0),nl,(ii 0),nl,(ii 0),nl,(ii 0),nl,(ii 0),nl,(ii 0),nl,(ii 0),nl,(ii 0),nl,(ii 0),nl,(ii 0),nl,(ii 0),nl,(ii 0),nl,(ii 0),nl,(ii 0),nl,(ii 0),nl,(ii 0),nl,(ii 0),nl,(ii 0),nl,(ii 0),nl,(ii 0),nl,(ii 0),nl,(ii 0),nl,(ii 0),nl,(ii 0),nl,(ii 0),nl,(ii 0),nl,(ii 0),nl,(ii 0),nl,(ii 0),nl,(ii 0),nl,(ii 0),nl,(ii 0),nl,(ii 0),nl,(ii 0),nl,(ii 0),nl,(ii 0),nl,(ii 0),nl,(ii 0),nl,(ii 0),nl,(ii 0),nl,(ii 0),nl,(ii 0),nl,(ii 0),nl,(ii 0),nl,(ii 0),nl,(ii 0)]))),(396,(514,8208,(.agg #[(ii 0),(ii 0),nl,(ii 0),nl,(ii 0),nl,(ii 0),nl,(ii 0),nl,(ii 0),nl,(ii 0),nl,(ii 0),nl,(ii 0),nl,(ii 0),nl,(ii 0),nl,(ii 0),nl,(ii 0),nl,(ii 0),nl,(ii 0),nl,(ii 0),nl,(ii 0),nl,(ii 0),nl,(ii 0),nl,(ii 0),nl,(ii 0),nl,(ii 0),nl,(ii 0),nl,(ii 0),nl,(ii 0),nl,(ii 0),nl,(ii 0),nl,(ii 0),nl,(ii 0),nl,(ii 0),nl,(ii 0),nl,(ii 0),nl,(ii 0),nl,(ii 0),nl,(ii 0),nl,(ii 0),nl,(ii 0),nl,(ii 0),nl,(ii 0),nl,(ii 0),nl,(ii 0),nl,(ii 0),nl,(ii 0),nl,(ii 0),nl,(ii 0),nl,(ii 0),nl,(ii 0),nl,(ii 0),nl,(ii 0),nl,(ii 0),nl,(ii 0),nl,(ii 0),nl,(ii 0),nl,(ii 0),nl,(ii 0),nl,(ii 0),nl,(ii 0),nl,(ii 0),nl,(ii 0),nl,(ii 0),nl,(ii 0),nl,(ii 0),nl,(ii 0),nl,(ii 0),nl,(ii 0),nl,(ii 0),nl,(ii 0),nl,(ii 0),nl,(ii 0),nl,(ii 0),nl,(ii 0),nl,(ii 0),nl,(ii 0),nl,(ii 0),nl,(ii 0),nl,(ii 0),nl,(ii 0),nl,(ii 0),nl,(ii 0),nl,(ii 0),nl,(ii 0),nl,(ii 0),nl,(ii 0),nl,(ii 0),nl,(ii 0),nl,(ii 0),nl,(ii 0),nl,(ii 0),nl,(ii 0),nl,(ii 0),nl,(ii 0),nl,(ii 0),nl,(ii 0),nl,(ii 0),nl,(ii 0),nl,(ii 0),nl,(ii 0),nl,(ii 0),nl,(ii 0),nl,(ii 0),nl,(ii 0),nl,(ii 0),nl,(ii 0),nl,(ii 0),nl,(ii 0),nl,(ii 0),nl,(ii 0),nl,(ii 0),nl,(ii 0),nl,(ii 0),nl,(ii 0),nl,(ii 0),nl,(ii 0),nl,(ii 0),nl,(ii 0),nl,(ii 0),nl,(ii 0),nl,(ii 0),nl,(ii 0),nl,(ii 0),nl,(ii 0),nl,(ii 0),nl,(ii 0),nl,(ii 0),nl,(ii 0),nl,(ii 0),nl,(ii 0),nl,(ii 0),nl,(ii 0),nl,(ii 0),nl,(ii 0),nl,(ii 0),nl,(ii 0),nl,(ii 0),nl,(ii 0),nl,(ii 0),nl,(ii 0),nl,(ii 0),nl,(ii 0),nl,(ii 0),nl,(ii 0),nl,(ii 0),nl,(ii 0),nl,(ii 0),nl,(ii 0),nl,(ii 0),nl,(ii 0),nl,(ii 0),nl,(ii 0),nl,(ii 0),nl,(ii 0),nl,(ii 0),nl,(ii 0),nl,(ii 0),nl,(ii 0),nl,(ii 0),nl,(ii 0),nl,(ii 0),nl,(ii 0),nl,(ii 0),nl,(ii 0),nl,(ii 0),nl,(ii 0),nl,(ii 0),nl,(ii 0),nl,(ii 0),nl,(ii 0),nl,(ii 0),nl,(ii 0),nl,(ii 0),nl,(ii 0),nl,(ii 0),nl,(ii 0),nl,(ii 0),nl,(ii 0),nl,(ii 0),nl,(ii 0),nl,(ii 0),nl,(ii 0),nl,(ii 0),nl,(ii 0),nl,(ii 0),nl,(ii 0),nl,(ii 0),nl,(ii 0),nl,(ii 0),nl,(ii 0),nl,(ii 0),nl,(ii 0),nl,(ii 0),nl,(ii 0),nl,(ii 0),nl,(ii 0),nl,(ii 0),nl,(ii 0),nl,(ii 0),nl,(ii 0),nl,(ii 0),nl,(ii 0),nl,(ii 0),nl,(ii 0),nl,(ii 0),nl,(ii 0),nl,(ii 0),nl,(ii 0),nl,(ii 0),nl,(ii 0),nl,(ii 0),nl,(ii 0),nl,(ii 0),nl,(ii 0),nl,(ii 0),nl,(ii 0),nl,(ii 0),nl,(ii 0),nl,(ii 0),nl,(ii 0),nl,(ii 0),nl,(ii 0),nl,(ii 0),nl,(ii 0),nl,(ii 0),nl,(ii 0),nl,(ii 0),nl,(ii 0),nl,(ii 0),nl,(ii 0),nl,(ii 0),nl,(ii 0),nl,(ii 0),nl,(ii 0),nl,(ii 0),nl,(ii 0),nl,(ii 0),nl,(ii 0),nl,(ii 0),nl,(ii 0),nl,(ii 0),nl,(ii 0),nl,(ii 0),nl,(ii 0),nl,(ii 0),nl,(ii 0),nl,(ii 0),nl,(ii 0),nl,(ii 0),nl,(ii 0),nl,(ii 0),nl,(ii 0),nl,(ii 0),nl,(ii 0),nl,(ii 0),nl,(ii 0),nl,(ii 0),nl,(ii 0),nl,(ii 0),nl,(ii 0)])))]
abbrev aJ:=Has Tryz.prog
theorem l9:aJ 12:=aL Tryz.func12
theorem acu:aJ 13:=aL Tryz.func13
theorem acv:aJ 14:=aL Tryz.func14
theorem acN:aJ 18:=aL Tryz.func18
theorem acZ:aJ 20:=aL Tryz.func20
theorem Tc:aJ 21:=aL Tryz.func21
theorem Ng:aJ 22:=aL Tryz.func22
theorem Th:aJ 23:=aL Tryz.func23
theorem D2:aJ 24:=aL Tryz.func24
theorem Tl:aJ 25:=aL Tryz.func25
theorem rI:aJ 26:=aL Tryz.func26
theorem Tr:aJ 28:=aL Tryz.func28
theorem Tt:aJ 29:=aL Tryz.func29
theorem adO:aJ 30:=aL Tryz.func30
theorem Tx:aJ 42:=aL Tryz.func42
theorem adU:aJ 43:=aL Tryz.func43
theorem Ns:aJ 45:=aL Tryz.func45
theorem adV:aJ 46:=aL Tryz.func46
theorem JH:aJ 47:=aL Tryz.func47
theorem Tz:aJ 48:=aL Tryz.func48
theorem Nt:aJ 49:=aL Tryz.func49
theorem adW:aJ 50:=aL Tryz.func50
theorem adX:aJ 51:=aL Tryz.func51
theorem adY:aJ 52:=aL Tryz.func52
theorem TA:aJ 53:=aL Tryz.func53
theorem JI:aJ 54:=aL Tryz.func54
theorem adZ:aJ 55:=aL Tryz.func55
theorem ad0:aJ 56:=aL Tryz.func56
theorem Nu:aJ 57:=aL Tryz.func57
theorem Nv:aJ 58:=aL Tryz.func58
theorem Gd:aJ 59:=aL Tryz.func59
theorem TB:aJ 61:=aL Tryz.func61
theorem iB:aJ 62:=aL Tryz.func62
theorem ad1:aJ 67:=aL Tryz.func67
theorem TC:aJ 68:=aL Tryz.func68
theorem TD:aJ 70:=aL Tryz.func70
theorem ad2:aJ 71:=aL Tryz.func71
theorem TE:aJ 74:=aL Tryz.func74
theorem ad3:aJ 75:=aL Tryz.func75
theorem ad4:aJ 76:=aL Tryz.func76
theorem ad5:aJ 77:=aL Tryz.func77
theorem Nw:aJ 78:=aL Tryz.func78
theorem TF:aJ 79:=aL Tryz.func79
theorem ad6:aJ 80:=aL Tryz.func80
theorem ad7:aJ 81:=aL Tryz.func81
theorem ad8:aJ 82:=aL Tryz.func82
theorem ad9:aJ 83:=aL Tryz.func83
theorem ad_:aJ 84:=aL Tryz.func84
theorem ad':aJ 85:=aL Tryz.func85
theorem aea:aJ 86:=aL Tryz.func86
theorem aeb:aJ 87:=aL Tryz.func87
theorem vp:aJ 88:=aL Tryz.func88
theorem TI:aJ 89:=aL Tryz.func89
theorem TJ:aJ 90:=aL Tryz.func90
theorem aec:aJ 91:=aL Tryz.func91
theorem aed:aJ 92:=aL Tryz.func92
theorem JJ:aJ 93:=aL Tryz.func93
theorem JK:aJ 94:=aL Tryz.func94
theorem Nx:aJ 95:=aL Tryz.func95
theorem B8:aJ 96:=aL Tryz.func96
theorem aee:aJ 97:=aL Tryz.func97
theorem SG:aJ 100:=aL Tryz.func100
theorem SH:aJ 101:=aL Tryz.func101
theorem M6:aJ 103:=aL Tryz.func103
theorem acf:aJ 104:=aL Tryz.func104
theorem acg:aJ 105:=aL Tryz.func105
theorem Jy:aJ 106:=aL Tryz.func106
theorem SI:aJ 107:=aL Tryz.func107
theorem SJ:aJ 108:=aL Tryz.func108
theorem SK:aJ 109:=aL Tryz.func109
theorem ach:aJ 110:=aL Tryz.func110
theorem M7:aJ 111:=aL Tryz.func111
theorem M8:aJ 112:=aL Tryz.func112
theorem Jz:aJ 113:=aL Tryz.func113
theorem aci:aJ 114:=aL Tryz.func114
theorem acj:aJ 115:=aL Tryz.func115
theorem ack:aJ 116:=aL Tryz.func116
theorem M9:aJ 117:=aL Tryz.func117
theorem SL:aJ 118:=aL Tryz.func118
theorem acm:aJ 119:=aL Tryz.func119
theorem acn:aJ 120:=aL Tryz.func120
theorem aco:aJ 121:=aL Tryz.func121
theorem B5:aJ 122:=aL Tryz.func122
theorem M_:aJ 123:=aL Tryz.func123
theorem SM:aJ 124:=aL Tryz.func124
theorem Na:aJ 125:=aL Tryz.func125
theorem acp:aJ 126:=aL Tryz.func126
theorem acq:aJ 127:=aL Tryz.func127
theorem acr:aJ 128:=aL Tryz.func128
theorem acs:aJ 129:=aL Tryz.func129
theorem B6:aJ 136:=aL Tryz.func136
theorem B7:aJ 137:=aL Tryz.func137
theorem SN:aJ 140:=aL Tryz.func140
theorem vn:aJ 141:=aL Tryz.func141
theorem SP:aJ 142:=aL Tryz.func142
theorem acw:aJ 143:=aL Tryz.func143
theorem D1:aJ 144:=aL Tryz.func144
theorem SQ:aJ 145:=aL Tryz.func145
theorem acx:aJ 146:=aL Tryz.func146
theorem acy:aJ 147:=aL Tryz.func147
theorem SR:aJ 148:=aL Tryz.func148
theorem SS:aJ 149:=aL Tryz.func149
theorem SU:aJ 150:=aL Tryz.func150
theorem SV:aJ 151:=aL Tryz.func151
theorem acz:aJ 152:=aL Tryz.func152
theorem SX:aJ 153:=aL Tryz.func153
theorem F8:aJ 154:=aL Tryz.func154
theorem acA:aJ 155:=aL Tryz.func155
theorem acB:aJ 156:=aL Tryz.func156
theorem SY:aJ 157:=aL Tryz.func157
theorem Nb:aJ 158:=aL Tryz.func158
theorem acC:aJ 159:=aL Tryz.func159
theorem SZ:aJ 160:=aL Tryz.func160
theorem S0:aJ 161:=aL Tryz.func161
theorem acD:aJ 162:=aL Tryz.func162
theorem acE:aJ 163:=aL Tryz.func163
theorem S3:aJ 164:=aL Tryz.func164
theorem F9:aJ 165:=aL Tryz.func165
theorem acF:aJ 166:=aL Tryz.func166
theorem acG:aJ 167:=aL Tryz.func167
theorem acH:aJ 168:=aL Tryz.func168
theorem tZ:aJ 171:=aL Tryz.func171
theorem F_:aJ 172:=aL Tryz.func172
theorem JA:aJ 173:=aL Tryz.func173
theorem acI:aJ 174:=aL Tryz.func174
theorem JB:aJ 175:=aL Tryz.func175
theorem acJ:aJ 176:=aL Tryz.func176
theorem acK:aJ 177:=aL Tryz.func177
theorem acL:aJ 178:=aL Tryz.func178
theorem acM:aJ 179:=aL Tryz.func179
theorem Ga:aJ 180:=aL Tryz.func180
theorem acO:aJ 181:=aL Tryz.func181
theorem acP:aJ 182:=aL Tryz.func182
theorem S4:aJ 183:=aL Tryz.func183
theorem acQ:aJ 184:=aL Tryz.func184
theorem acR:aJ 185:=aL Tryz.func185
theorem JC:aJ 186:=aL Tryz.func186
theorem S5:aJ 187:=aL Tryz.func187
theorem acS:aJ 188:=aL Tryz.func188
theorem S6:aJ 189:=aL Tryz.func189
theorem Nc:aJ 190:=aL Tryz.func190
theorem acT:aJ 191:=aL Tryz.func191
theorem acU:aJ 192:=aL Tryz.func192
theorem acV:aJ 193:=aL Tryz.func193
theorem Nd:aJ 194:=aL Tryz.func194
theorem S7:aJ 195:=aL Tryz.func195
theorem S8:aJ 196:=aL Tryz.func196
theorem acW:aJ 197:=aL Tryz.func197
theorem acX:aJ 198:=aL Tryz.func198
theorem acY:aJ 199:=aL Tryz.func199
theorem ac0:aJ 200:=aL Tryz.func200
theorem S9:aJ 201:=aL Tryz.func201
theorem S_:aJ 202:=aL Tryz.func202
theorem ac1:aJ 203:=aL Tryz.func203
theorem Nf:aJ 204:=aL Tryz.func204
theorem Ta:aJ 205:=aL Tryz.func205
theorem Tb:aJ 206:=aL Tryz.func206
theorem AA:aJ 207:=aL Tryz.func207
theorem ac2:aJ 208:=aL Tryz.func208
theorem ac3:aJ 210:=aL Tryz.func210
theorem ac4:aJ 211:=aL Tryz.func211
theorem ac5:aJ 212:=aL Tryz.func212
theorem Td:aJ 213:=aL Tryz.func213
theorem ac6:aJ 214:=aL Tryz.func214
theorem ac7:aJ 215:=aL Tryz.func215
theorem Te:aJ 216:=aL Tryz.func216
theorem JD:aJ 217:=aL Tryz.func217
theorem JE:aJ 218:=aL Tryz.func218
theorem ac8:aJ 219:=aL Tryz.func219
theorem JF:aJ 220:=aL Tryz.func220
theorem ac9:aJ 221:=aL Tryz.func221
theorem ac_:aJ 222:=aL Tryz.func222
theorem ac':aJ 223:=aL Tryz.func223
theorem Tf:aJ 224:=aL Tryz.func224
theorem ada:aJ 225:=aL Tryz.func225
theorem adb:aJ 226:=aL Tryz.func226
theorem Nh:aJ 227:=aL Tryz.func227
theorem Tg:aJ 228:=aL Tryz.func228
theorem ade:aJ 229:=aL Tryz.func229
theorem adf:aJ 230:=aL Tryz.func230
theorem adg:aJ 231:=aL Tryz.func231
theorem adh:aJ 232:=aL Tryz.func232
theorem adi:aJ 233:=aL Tryz.func233
theorem adj:aJ 234:=aL Tryz.func234
theorem adk:aJ 235:=aL Tryz.func235
theorem adl:aJ 236:=aL Tryz.func236
theorem Ni:aJ 237:=aL Tryz.func237
theorem adm:aJ 238:=aL Tryz.func238
theorem Nj:aJ 239:=aL Tryz.func239
theorem adn:aJ 240:=aL Tryz.func240
theorem ado:aJ 241:=aL Tryz.func241
theorem adp:aJ 242:=aL Tryz.func242
theorem Ti:aJ 243:=aL Tryz.func243
theorem adq:aJ 244:=aL Tryz.func244
theorem Tj:aJ 245:=aL Tryz.func245
theorem adr:aJ 246:=aL Tryz.func246
theorem Tk:aJ 247:=aL Tryz.func247
theorem Nl:aJ 248:=aL Tryz.func248
theorem ads:aJ 249:=aL Tryz.func249
theorem Tm:aJ 250:=aL Tryz.func250
theorem adt:aJ 251:=aL Tryz.func251
theorem adu:aJ 252:=aL Tryz.func252
theorem adv:aJ 253:=aL Tryz.func253
theorem adw:aJ 254:=aL Tryz.func254
theorem adx:aJ 255:=aL Tryz.func255
theorem ady:aJ 264:=aL Tryz.func264
theorem JG:aJ 265:=aL Tryz.func265
theorem adz:aJ 266:=aL Tryz.func266
theorem adA:aJ 267:=aL Tryz.func267
theorem adB:aJ 269:=aL Tryz.func269
theorem Tn:aJ 270:=aL Tryz.func270
theorem adC:aJ 271:=aL Tryz.func271
theorem adD:aJ 272:=aL Tryz.func272
theorem Nn:aJ 273:=aL Tryz.func273
theorem Np:aJ 274:=aL Tryz.func274
theorem adE:aJ 275:=aL Tryz.func275
theorem adF:aJ 276:=aL Tryz.func276
theorem xd:aJ 277:=aL Tryz.func277
theorem Nq:aJ 278:=aL Tryz.func278
theorem Tq:aJ 279:=aL Tryz.func279
theorem Ts:aJ 280:=aL Tryz.func280
theorem adG:aJ 281:=aL Tryz.func281
theorem adH:aJ 282:=aL Tryz.func282
theorem adI:aJ 288:=aL Tryz.func288
theorem adJ:aJ 289:=aL Tryz.func289
theorem adK:aJ 290:=aL Tryz.func290
theorem Tu:aJ 291:=aL Tryz.func291
theorem Tv:aJ 292:=aL Tryz.func292
theorem Nr:aJ 293:=aL Tryz.func293
theorem Gb:aJ 294:=aL Tryz.func294
theorem adL:aJ 295:=aL Tryz.func295
theorem adM:aJ 297:=aL Tryz.func297
theorem adN:aJ 299:=aL Tryz.func299
theorem adP:aJ 300:=aL Tryz.func300
theorem Tw:aJ 301:=aL Tryz.func301
theorem adQ:aJ 302:=aL Tryz.func302
theorem adR:aJ 303:=aL Tryz.func303
theorem adS:aJ 304:=aL Tryz.func304
theorem adT:aJ 305:=aL Tryz.func305
theorem mix:Tryz.prog.follows .mixedOrders=true:=az
theorem aiN:Tryz.prog.stoodInHeld 94=false/\Tryz.prog.eqGuardType Tryz.prog.depth 94=false:=⟨by kernel_rfl,by kernel_rfl⟩
theorem Pw:Tryz.prog.stoodInHeld 285=false/\Tryz.prog.eqGuardType Tryz.prog.depth 285=false:=⟨by kernel_rfl,by kernel_rfl⟩
@[reducible] def XY (o : Option fT) (v : Value) (G : List Hp) : Prop := match o with
 |none=>v= .pointer none/\G=[]
 |some x=> ∃(b:Nat) (a0 n0 H0:_) (a1:Nat) (H1:Hp),aj kH 278 x.ak a0 n0 H0/\cQ (Ky.pair T .i64 rfl rfl rfl lQ u3) (λx:Int=>Value.int .i64 x) x.eP a1 H1/\v= .pointer (some ⟨b,0,none⟩)/\G=[(cl b 238 [(ii x.k),(ll a0 x.ak n0),(.map (some a1)),(ii x.cA),(ii x.di)]),H0,H1]
def sk (x:ju) (b:Nat) (H:Hp):Prop:= ∃(b0:Nat) (a1 n1 H1:_) (a2:Nat) (H2:Hp) (a3 n3 H3:_),aj kH 278 x.keys.ak a1 n1 H1/\cQ (Ky.pair T .i64 rfl rfl rfl lQ u3) (λx:Int=>Value.int .i64 x) x.keys.eP a2 H2/\gF EB 291 x.fields a3 n3 H3/\H=List.flatten [(cl b 173 [(pp b0),(ll a3 x.fields n3),(uu x.count.bB),(uu x.count.bw),(uu x.count.bk),(uu x.count.bn),(uu x.count.bF),(uu x.count.bE)]),(cl b0 238 [(ii x.keys.k),(ll a1 x.keys.ak n1),(.map (some a2)),(ii x.keys.cA),(ii x.keys.di)]),H1,H2,H3]
@[reducible] def X6 (o : Option ju) (v : Value) (G : List Hp) : Prop := match o with
 |none=>v= .pointer none/\G=[]
 |some x=> ∃(b:Nat) (H:Hp),sk x b H/\v= .pointer (some ⟨b,0,none⟩)/\G=[H]
def iF (x:bA) (b:Nat) (H:Hp):Prop:= ∃a0 n0 H0 a1 n1 H1,aj (Fl.int .u8) 5 x.m.C a0 n0 H0/\aj (Fl.int .i64) 2 x.pQ a1 n1 H1/\H=List.flatten [(cl b 167 [(ii x.m.W),(ii x.m.H),(ll a0 x.m.C n0),(ii x.bN),(ll a1 x.pQ n1)]),H0,H1]
def mO (x:dJ) (b:Nat) (l0:Nat) (H:Hp):Prop:= ∃a0 n0 H0,gF OV 217 x.parts a0 n0 H0/\H=List.flatten [(cl b 213 [(pp l0),(ll a0 x.parts n0),(ii x.clean),(uu x.count)]),H0]
def Lu (o:Option gZ) (l0:Nat) (l1:Nat) (v0:Value) (H:Hp):Prop:=match o with
 |none=>v0= .pointer none/\H=[]
 |some y=> ∃(b0:Nat) (a1 n1 H1:_),aj (Fl.int .i32) 21 y.aP a1 n1 H1/\v0=(pp b0)/\H=List.flatten [(cl b0 235 [(ii y.goal),(ii y.bN),(ll a1 y.aP n1)]),H1]
def tN (x:kc) (b:Nat) (l0:Nat) (l1:Nat) (H:Hp):Prop:= ∃(v0:Value) (Ho:Hp),Lu x.kept l0 l1 v0 Ho/\H=List.flatten [(cl b 233 [(pp l0),(pp l1),v0,(uu x.count)]),Ho]
def uO (o:Option dK) (v0 v1 v2:Value) (H:Hp):Prop:=match o with
 |none=>v0= .pointer none/\v1= .pointer none/\v2= .pointer none/\H=[]
 |some y=> ∃(b0:Nat) (H0:Hp) (b1:Nat) (H1:Hp) (b2:Nat) (H2:Hp),iF y.ay b0 H0/\mO y.fZ b1 b0 H1/\tN y.gJ b2 b1 b0 H2/\v0=(pp b0)/\v1=(pp b1)/\v2=(pp b2)/\H=List.flatten [H0,H1,H2]
def gT (x:bQ) (b:Nat) (H:Hp):Prop:= ∃(b0:Nat) (H0:Hp) (v0 v1 v2:Value) (Ho:Hp),sk x.cz b0 H0/\uO x.core v0 v1 v2 Ho/\H=List.flatten [(cl b 135 [v0,v1,v2,(pp b0),(uu x.aV.bB),(uu x.aV.bw),(uu x.aV.bk),(uu x.aV.bn),(uu x.aV.bF),(uu x.aV.bE)]),H0,Ho]
@[reducible] def X1 (o : Option bQ) (v : Value) (G : List Hp) : Prop := match o with
 |none=>v= .pointer none/\G=[]
 |some x=> ∃(b:Nat) (H:Hp),gT x b H/\v= .pointer (some ⟨b,0,none⟩)/\G=[H]
def lV (x:eA) (b:Nat) (H:Hp):Prop:= ∃(b0:Nat) (a1:Nat) (H1:Hp) (a2 n2 H2:_) (b3:Nat) (a4 n4 H4:_),cQ (Ky.int .i64 u3) (λx:aD=>Value.agg #[.int .i64 x.Id,.int .i64 x.Cell,.int .i64 x.Goal]) x.cP.live a1 H1/\aj (Fl.int .i64) 3 x.cP.order a2 n2 H2/\aj (Fl.int .u32) 65 x.floor.words a4 n4 H4/\H=List.flatten [(cl b 146 [(ii x.w),(ii x.h),(ii x.most),(pp b0),(pp b3)]),(cl b0 178 [(ii x.cP.most),(ii x.cP.next),(.map (some a1)),(ll a2 x.cP.order n2)]),H1,H2,(cl b3 221 [(ll a4 x.floor.words n4),(ii x.floor.count)]),H4]
def BD (o:Option eA) (v0:Value) (H:Hp):Prop:=match o with
 |none=>v0= .pointer none/\H=[]
 |some y=> ∃(b0:Nat) (H0:Hp),lV y b0 H0/\v0=(pp b0)/\H=List.flatten [H0]
def gv (x:bT) (b:Nat) (H:Hp):Prop:= ∃(b0:Nat) (H0:Hp) (v0:Value) (Ho:Hp),gT x.nav b0 H0/\BD x.eZ v0 Ho/\H=List.flatten [(cl b 103 [(ii x.most),(pp b0),v0]),H0,Ho]
@[reducible] def X7 (o : Option bT) (v : Value) (G : List Hp) : Prop := match o with
 |none=>v= .pointer none/\G=[]
 |some x=> ∃(b:Nat) (H:Hp),gv x b H/\v= .pointer (some ⟨b,0,none⟩)/\G=[H]
@[reducible] def XW (o : Option bA) (v : Value) (G : List Hp) : Prop := match o with
 |none=>v= .pointer none/\G=[]
 |some x=> ∃(b:Nat) (H:Hp),iF x b H/\v= .pointer (some ⟨b,0,none⟩)/\G=[H]
@[reducible] def XZ (w0 : Nat) (o : Option dJ) (v : Value) (G : List Hp) : Prop := match o with
 |none=>v= .pointer none/\G=[]
 |some x=> ∃(b:Nat) (H:Hp),mO x b w0 H/\v= .pointer (some ⟨b,0,none⟩)/\G=[H]
@[reducible] def X4 (w0 : Nat) (w1 : Nat) (o : Option kc) (v : Value) (G : List Hp) : Prop := match o with
 |none=>v= .pointer none/\G=[]
 |some x=> ∃(b:Nat) (H:Hp),tN x b w0 w1 H/\v= .pointer (some ⟨b,0,none⟩)/\G=[H]
@[reducible] def X8 (o : Option fb) (v : Value) (G : List Hp) : Prop := match o with
 |none=>v= .pointer none/\G=[]
 |some x=> ∃(b:Nat) (a0:Nat) (H0:Hp) (a1 n1 H1:_),cQ (Ky.int .i64 u3) (λx:aD=>Value.agg #[.int .i64 x.Id,.int .i64 x.Cell,.int .i64 x.Goal]) x.live a0 H0/\aj (Fl.int .i64) 3 x.order a1 n1 H1/\v= .pointer (some ⟨b,0,none⟩)/\G=[(cl b 178 [(ii x.most),(ii x.next),(.map (some a0)),(ll a1 x.order n1)]),H0,H1]
@[reducible] def XV (o : Option fJ) (v : Value) (G : List Hp) : Prop := match o with
 |none=>v= .pointer none/\G=[]
 |some x=> ∃(b:Nat) (a0 n0 H0:_),aj (Fl.int .u32) 65 x.words a0 n0 H0/\v= .pointer (some ⟨b,0,none⟩)/\G=[(cl b 221 [(ll a0 x.words n0),(ii x.count)]),H0]
@[reducible] def XU (o : Option eA) (v : Value) (G : List Hp) : Prop := match o with
 |none=>v= .pointer none/\G=[]
 |some x=> ∃(b:Nat) (H:Hp),lV x b H/\v= .pointer (some ⟨b,0,none⟩)/\G=[H]
def kt (x:eK) (b:Nat) (H:Hp):Prop:=yf Wt [.int .i64 x.bc,.int .i64 x.len] x.buckets b 396 H/\List.length x.buckets=256
@[reducible] def X3 (o : Option eK) (v : Value) (G : List Hp) : Prop := match o with
 |none=>v= .pointer none/\G=[]
 |some x=> ∃(b:Nat) (H:Hp),kt x b H/\v= .pointer (some ⟨b,0,none⟩)/\G=[H]
@[reducible] def XX (o : Option eT) (v : Value) (G : List Hp) : Prop := match o with
 |none=>v= .pointer none/\G=[]
 |some x=> ∃(b:Nat) (a0 n0 H0:_),aj fL 359 x.l a0 n0 H0/\v= .pointer (some ⟨b,0,none⟩)/\G=[(cl b 357 [(ll a0 x.l n0)]),H0]
@[reducible] def X5 (o : Option gZ) (v : Value) (G : List Hp) : Prop := match o with
 |none=>v= .pointer none/\G=[]
 |some x=> ∃(b:Nat) (a0 n0 H0:_),aj (Fl.int .i32) 21 x.aP a0 n0 H0/\v= .pointer (some ⟨b,0,none⟩)/\G=[(cl b 235 [(ii x.goal),(ii x.bN),(ll a0 x.aP n0)]),H0]
def X9 (r:Option gZ) (x:kc) (b:Nat) (l0:Nat) (l1:Nat) (u:Value) (H:Hp):Prop:=match r with
 |none=>u= .pointer none/\tN x b l0 l1 H
 |some y=>x.kept=some y/\ ∃(b0:Nat) (a1 n1 H1:_),aj (Fl.int .i32) 21 y.aP a1 n1 H1/\u= .pointer (some ⟨b0,0,none⟩)/\H=List.flatten [(cl b 233 [(pp l0),(pp l1),(pp b0),(uu x.count)]),List.flatten [(cl b0 235 [(ii y.goal),(ii y.bN),(ll a1 y.aP n1)]),H1]]
abbrev QR:=CR Tryz.prog
abbrev QU:=CU Tryz.prog
abbrev bm:=Value->List Hp->Prop
theorem dN {p:Prop} (h:p:=by first|rfl|(simp only[ll,List.length_set];rfl)):p:=h
end Go.Proofs.YthodkonhneebbaaGreatDoor
