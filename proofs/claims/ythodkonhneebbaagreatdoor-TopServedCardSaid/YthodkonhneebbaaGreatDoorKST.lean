/- Part of the proof. No condition. -/
import Derived.Test.YthodkonhneebbaaGreatDoorProg
import Derived.KernelRfl
import Derived.Test.YthodkonhneebbaaGreatDoorKSErrs
import Derived.Test.YthodkonhneebbaaGreatDoorKSHz
namespace Go.Proofs.YthodkonhneebbaaGreatDoor
open Go.Hx
set_option maxRecDepth 100000
set_option linter.unusedSimpArgs false
set_option linter.unusedVariables false
structure pI where
 Kind:Int
 A:Int
 B:Int
instance :Inhabited pI:=⟨⟨default,default,default⟩⟩
def EB:Fl pI:=⟨3,λx=>[.int .i64 x.Kind,.int .i64 x.A,.int .i64 x.B],λ_=>rfl,λ_ v h=>by
 simp only[List.mem_cons,List.not_mem_nil,or_false] at h;rcases h with rfl |rfl |rfl<;>rfl,Nat.le_of_ble_eq_true rfl⟩
structure bt where
 key:(Int×Int)
 cU:Int
 bc:Int
instance :Inhabited bt:=⟨⟨default,default,default⟩⟩
def j6:Fl bt:=⟨4,λx=>[.int .i64 x.key.1,.int .i64 x.key.2,.int .i64 x.cU,.int .i64 x.bc],λ_=>rfl,λ_ v h=>by
 simp only[List.mem_cons,List.not_mem_nil,or_false] at h;rcases h with rfl |rfl |rfl |rfl<;>rfl,Nat.le_of_ble_eq_true rfl⟩
structure fJ where
 k:Int
 aw:(List bt)
 fg:(List ((Int×Int)×Int))
 cJ:Int
 dp:Int
instance :Inhabited fJ:=⟨⟨default,default,default,default,default⟩⟩
structure aX where
 Cell:Int
 cK:Int
 Key:Int
instance :Inhabited aX:=⟨⟨default,default,default⟩⟩
def cT:Fl aX:=⟨3,λx=>[.int .i64 x.Cell,.int .i64 x.cK,.int .i64 x.Key],λ_=>rfl,λ_ v h=>by
 simp only[List.mem_cons,List.not_mem_nil,or_false] at h;rcases h with rfl |rfl |rfl<;>rfl,Nat.le_of_ble_eq_true rfl⟩
structure eJ where
 cN:(List Int)
 cx:(List Int)
instance :Inhabited eJ:=⟨⟨default,default⟩⟩
structure qN where
 version:Int
 uB:(List aX)
 field:eJ
instance :Inhabited qN:=⟨⟨default,default,default⟩⟩
structure g_ where
 bM:Int
 bN:Int
 bJ:Int
 bF:Int
 bW:Int
 bR:Int
instance :Inhabited g_:=⟨⟨default,default,default,default,default,default⟩⟩
structure ji where
 keys:fJ
 fields:(List qN)
 count:g_
instance :Inhabited ji:=⟨⟨default,default,default⟩⟩
def EM:Kd qN where
 size:=4
 own:=λx cs H=> ∃a0 n0 H0 a1 n1 H1 a2 n2 H2,aj cT 285 x.uB a0 n0 H0/\aj (Fl.int .i64) 3 x.field.cN a1 n1 H1/\aj (Fl.int .i64) 3 x.field.cx a2 n2 H2/\cs=[.int .i64 x.version,.slice a0 (List.length x.uB) n0,.slice a1 (List.length x.field.cN) n1,.slice a2 (List.length x.field.cx) n2]/\H=List.flatten [H0,H1,H2]
 og:=λx cs H=> ∃(a0:Option Addr) (n0:Nat) (a1:Option Addr) (n1:Nat) (a2:Option Addr) (n2:Nat),(aO cT x.uB a0 H/\List.length x.uB<=n0)/\(aO (Fl.int .i64) x.field.cN a1 H/\List.length x.field.cN<=n1)/\(aO (Fl.int .i64) x.field.cx a2 H/\List.length x.field.cx<=n2)/\cs=[.int .i64 x.version,.slice a0 (List.length x.uB) n0,.slice a1 (List.length x.field.cN) n1,.slice a2 (List.length x.field.cx) n2]
 len:=by
  rintro x cs H ⟨a0,n0,H0,a1,n1,H1,a2,n2,H2,s0,s1,s2,rfl,rfl⟩
  rfl
 plain:=by
  rintro x cs H ⟨a0,n0,H0,a1,n1,H1,a2,n2,H2,s0,s1,s2,rfl,rfl⟩ v hv;simp only[List.mem_cons,List.not_mem_nil,or_false] at hv;rcases hv with rfl |rfl |rfl |rfl<;>rfl
 r:=by
  rintro x cs H ⟨a0,n0,H0,a1,n1,H1,a2,n2,H2,s0,s1,s2,rfl,rfl⟩;exact⟨a0,n0,a1,n1,a2,n2,⟨s0.r.mono (λc hc=>ie (HL:=[H0,H1,H2]) (j:=0) rfl hc),s0.bZ⟩,⟨s1.r.mono (λc hc=>ie (HL:=[H0,H1,H2]) (j:=1) rfl hc),s1.bZ⟩,⟨s2.r.mono (λc hc=>ie (HL:=[H0,H1,H2]) (j:=2) rfl hc),s2.bZ⟩,rfl⟩
 mono:=by
  rintro x cs H H' ⟨a0,n0,a1,n1,a2,n2,⟨r0,c0⟩,⟨r1,c1⟩,⟨r2,c2⟩,rfl⟩ hs;exact⟨a0,n0,a1,n1,a2,n2,⟨r0.mono hs,c0⟩,⟨r1.mono hs,c1⟩,⟨r2.mono hs,c2⟩,rfl⟩
 pos:=by decide
structure aG where
 W:Int
 H:Int
 C:(List Int)
instance :Inhabited aG:=⟨⟨default,default,default⟩⟩
structure bx where
 m:aG
 bV:Int
 qf:(List Int)
instance :Inhabited bx:=⟨⟨default,default,default⟩⟩
structure pQ where
 version:Int
 nodes:(List Int)
 aN:(List Int)
instance :Inhabited pQ:=⟨⟨default,default,default⟩⟩
structure dO where
 parts:(List pQ)
 clean:Int
 count:Int
instance :Inhabited dO:=⟨⟨default,default,default⟩⟩
structure gO where
 goal:Int
 bV:Int
 aN:(List Int)
instance :Inhabited gO:=⟨⟨default,default,default⟩⟩
structure kc where
 kept:(Option gO)
 count:Int
instance :Inhabited kc:=⟨⟨default,default⟩⟩
structure fe where
 aK:bx
 jv:dO
 kQ:kc
instance :Inhabited fe:=⟨⟨default,default,default⟩⟩
structure cI where
 core:(Option fe)
 gF:ji
 aU:g_
instance :Inhabited cI:=⟨⟨default,default,default⟩⟩
def Pe:Kd pQ where
 size:=3
 own:=λx cs H=> ∃a0 n0 H0 a1 n1 H1,aj (Fl.int .i64) 3 x.nodes a0 n0 H0/\aj (Fl.int .i32) 21 x.aN a1 n1 H1/\cs=[.int .i64 x.version,.slice a0 (List.length x.nodes) n0,.slice a1 (List.length x.aN) n1]/\H=List.flatten [H0,H1]
 og:=λx cs H=> ∃(a0:Option Addr) (n0:Nat) (a1:Option Addr) (n1:Nat),(aO (Fl.int .i64) x.nodes a0 H/\List.length x.nodes<=n0)/\(aO (Fl.int .i32) x.aN a1 H/\List.length x.aN<=n1)/\cs=[.int .i64 x.version,.slice a0 (List.length x.nodes) n0,.slice a1 (List.length x.aN) n1]
 len:=by
  rintro x cs H ⟨a0,n0,H0,a1,n1,H1,s0,s1,rfl,rfl⟩
  rfl
 plain:=by
  rintro x cs H ⟨a0,n0,H0,a1,n1,H1,s0,s1,rfl,rfl⟩ v hv;simp only[List.mem_cons,List.not_mem_nil,or_false] at hv;rcases hv with rfl |rfl |rfl<;>rfl
 r:=by
  rintro x cs H ⟨a0,n0,H0,a1,n1,H1,s0,s1,rfl,rfl⟩;exact⟨a0,n0,a1,n1,⟨s0.r.mono (λc hc=>ie (HL:=[H0,H1]) (j:=0) rfl hc),s0.bZ⟩,⟨s1.r.mono (λc hc=>ie (HL:=[H0,H1]) (j:=1) rfl hc),s1.bZ⟩,rfl⟩
 mono:=by
  rintro x cs H H' ⟨a0,n0,a1,n1,⟨r0,c0⟩,⟨r1,c1⟩,rfl⟩ hs;exact⟨a0,n0,a1,n1,⟨r0.mono hs,c0⟩,⟨r1.mono hs,c1⟩,rfl⟩
 pos:=by decide
structure bD where
 Id:Int
 Cell:Int
 Goal:Int
instance :Inhabited bD:=⟨⟨default,default,default⟩⟩
def l6:Fl bD:=⟨3,λx=>[.int .i64 x.Id,.int .i64 x.Cell,.int .i64 x.Goal],λ_=>rfl,λ_ v h=>by
 simp only[List.mem_cons,List.not_mem_nil,or_false] at h;rcases h with rfl |rfl |rfl<;>rfl,Nat.le_of_ble_eq_true rfl⟩
structure fN where
 most:Int
 next:Int
 live:(List (Int×bD))
 order:(List Int)
instance :Inhabited fN:=⟨⟨default,default,default,default⟩⟩
structure kq where
 words:(List Int)
 count:Int
instance :Inhabited kq:=⟨⟨default,default⟩⟩
structure fA where
 w:Int
 h:Int
 most:Int
 eY:fN
 floor:kq
instance :Inhabited fA:=⟨⟨default,default,default,default,default⟩⟩
structure cg where
 most:Int
 nav:cI
 fE:(Option fA)
instance :Inhabited cg:=⟨⟨default,default,default⟩⟩
structure eG where
 Kind:Int
 A:Int
 B:Int
 Map:(List Int)
instance :Inhabited eG:=⟨⟨default,default,default,default⟩⟩
def HH:Kd eG where
 size:=4
 own:=λx cs H=> ∃a0 n0 H0,aj (Fl.int .u8) 5 x.Map a0 n0 H0/\cs=[.int .i64 x.Kind,.int .i64 x.A,.int .i64 x.B,.slice a0 (List.length x.Map) n0]/\H=List.flatten [H0]
 og:=λx cs H=> ∃(a0:Option Addr) (n0:Nat),(aO (Fl.int .u8) x.Map a0 H/\List.length x.Map<=n0)/\cs=[.int .i64 x.Kind,.int .i64 x.A,.int .i64 x.B,.slice a0 (List.length x.Map) n0]
 len:=by
  rintro x cs H ⟨a0,n0,H0,s0,rfl,rfl⟩
  rfl
 plain:=by
  rintro x cs H ⟨a0,n0,H0,s0,rfl,rfl⟩ v hv;simp only[List.mem_cons,List.not_mem_nil,or_false] at hv;rcases hv with rfl |rfl |rfl |rfl<;>rfl
 r:=by
  rintro x cs H ⟨a0,n0,H0,s0,rfl,rfl⟩;exact⟨a0,n0,⟨s0.r.mono (λc hc=>ie (HL:=[H0]) (j:=0) rfl hc),s0.bZ⟩,rfl⟩
 mono:=by
  rintro x cs H H' ⟨a0,n0,⟨r0,c0⟩,rfl⟩ hs;exact⟨a0,n0,⟨r0.mono hs,c0⟩,rfl⟩
 pos:=by decide
structure gv where
 Id:Int
 To:Int
instance :Inhabited gv:=⟨⟨default,default⟩⟩
def jM:Fl gv:=⟨2,λx=>[.int .i64 x.Id,.int .i64 x.To],λ_=>rfl,λ_ v h=>by
 simp only[List.mem_cons,List.not_mem_nil,or_false] at h;rcases h with rfl |rfl<;>rfl,Nat.le_of_ble_eq_true rfl⟩
structure mJ where
 Code:Int
 D:Int
 cx:Int
 Id:Int
 iK:(List gv)
 iZ:(List Int)
 Stats:g_
instance :Inhabited mJ:=⟨⟨default,default,default,default,default,default,default⟩⟩
structure Bj where
 a:Int
 b:Int
 load:Bool
instance :Inhabited Bj:=⟨⟨default,default,default⟩⟩
structure ff where
 b:(List Int)
 aZ:Int
instance :Inhabited ff:=⟨⟨default,default⟩⟩
structure ka where
 items:(List Int)
 gone:Int
instance :Inhabited ka:=⟨⟨default,default⟩⟩
def Wr:Kd ka where
 size:=2
 own:=λx cs H=> ∃a0 n0 H0,aj (Fl.int .i64) 3 x.items a0 n0 H0/\cs=[.slice a0 (List.length x.items) n0,.int .i64 x.gone]/\H=List.flatten [H0]
 og:=λx cs H=> ∃(a0:Option Addr) (n0:Nat),(aO (Fl.int .i64) x.items a0 H/\List.length x.items<=n0)/\cs=[.slice a0 (List.length x.items) n0,.int .i64 x.gone]
 len:=by
  rintro x cs H ⟨a0,n0,H0,s0,rfl,rfl⟩
  rfl
 plain:=by
  rintro x cs H ⟨a0,n0,H0,s0,rfl,rfl⟩ v hv;simp only[List.mem_cons,List.not_mem_nil,or_false] at hv;rcases hv with rfl |rfl<;>rfl
 r:=by
  rintro x cs H ⟨a0,n0,H0,s0,rfl,rfl⟩;exact⟨a0,n0,⟨s0.r.mono (λc hc=>ie (HL:=[H0]) (j:=0) rfl hc),s0.bZ⟩,rfl⟩
 mono:=by
  rintro x cs H H' ⟨a0,n0,⟨r0,c0⟩,rfl⟩ hs;exact⟨a0,n0,⟨r0.mono hs,c0⟩,rfl⟩
 pos:=by decide
structure eX where
 aZ:Int
 len:Int
 buckets:(List ka)
instance :Inhabited eX:=⟨⟨default,default,default⟩⟩
def E_:List Int:=[0,1,2,2,3,3,3,3,4,4,4,4,4,4,4,4,5,5,5,5,5,5,5,5,5,5,5,5,5,5,5,5,6,6,6,6,6,6,6,6,6,6,6,6,6,6,6,6,6,6,6,6,6,6,6,6,6,6,6,6,6,6,6,6,7,7,7,7,7,7,7,7,7,7,7,7,7,7,7,7,7,7,7,7,7,7,7,7,7,7,7,7,7,7,7,7,7,7,7,7,7,7,7,7,7,7,7,7,7,7,7,7,7,7,7,7,7,7,7,7,7,7,7,7,7,7,7,7,8,8,8,8,8,8,8,8,8,8,8,8,8,8,8,8,8,8,8,8,8,8,8,8,8,8,8,8,8,8,8,8,8,8,8,8,8,8,8,8,8,8,8,8,8,8,8,8,8,8,8,8,8,8,8,8,8,8,8,8,8,8,8,8,8,8,8,8,8,8,8,8,8,8,8,8,8,8,8,8,8,8,8,8,8,8,8,8,8,8,8,8,8,8,8,8,8,8,8,8,8,8,8,8,8,8,8,8,8,8,8,8,8,8,8,8,8,8,8,8,8,8,8,8,8,8,8,8]
structure dr where
 t:aG
 wait:eX
 todo:(List aX)
 aN:(List Int)
instance :Inhabited dr:=⟨⟨default,default,default,default⟩⟩
structure cP where
 key:Int
 item:Int
instance :Inhabited cP:=⟨⟨default,default⟩⟩
def fR:Fl cP:=⟨2,λx=>[.int .i64 x.key,.int .i64 x.item],λ_=>rfl,λ_ v h=>by
 simp only[List.mem_cons,List.not_mem_nil,or_false] at h;rcases h with rfl |rfl<;>rfl,Nat.le_of_ble_eq_true rfl⟩
structure eP where
 l:(List cP)
instance :Inhabited eP:=⟨⟨default⟩⟩
structure ez where
 To:Int
 kG:Int
instance :Inhabited ez:=⟨⟨default,default⟩⟩
def pN:Fl ez:=⟨2,λx=>[.int .i64 x.To,.int .i64 x.kG],λ_=>rfl,λ_ v h=>by
 simp only[List.mem_cons,List.not_mem_nil,or_false] at h;rcases h with rfl |rfl<;>rfl,Nat.le_of_ble_eq_true rfl⟩
structure DA where
 t:aG
 l:(List aX)
 aN:(List Int)
instance :Inhabited DA:=⟨⟨default,default,default⟩⟩
structure gw where
 Goal:Int
 tA:Int
 kn:(List Int)
instance :Inhabited gw:=⟨⟨default,default,default⟩⟩
def pV:Kd gw where
 size:=3
 own:=λx cs H=> ∃a0 n0 H0,aj (Fl.int .i64) 3 x.kn a0 n0 H0/\cs=[.int .i64 x.Goal,.int .i64 x.tA,.slice a0 (List.length x.kn) n0]/\H=List.flatten [H0]
 og:=λx cs H=> ∃(a0:Option Addr) (n0:Nat),(aO (Fl.int .i64) x.kn a0 H/\List.length x.kn<=n0)/\cs=[.int .i64 x.Goal,.int .i64 x.tA,.slice a0 (List.length x.kn) n0]
 len:=by
  rintro x cs H ⟨a0,n0,H0,s0,rfl,rfl⟩
  rfl
 plain:=by
  rintro x cs H ⟨a0,n0,H0,s0,rfl,rfl⟩ v hv;simp only[List.mem_cons,List.not_mem_nil,or_false] at hv;rcases hv with rfl |rfl |rfl<;>rfl
 r:=by
  rintro x cs H ⟨a0,n0,H0,s0,rfl,rfl⟩;exact⟨a0,n0,⟨s0.r.mono (λc hc=>ie (HL:=[H0]) (j:=0) rfl hc),s0.bZ⟩,rfl⟩
 mono:=by
  rintro x cs H H' ⟨a0,n0,⟨r0,c0⟩,rfl⟩ hs;exact⟨a0,n0,⟨r0.mono hs,c0⟩,rfl⟩
 pos:=by decide
structure rD where
 w:Int
 h:Int
 kE:(List (Int×Bool))
 j8:(List gv)
 gone:(List Int)
instance :Inhabited rD:=⟨⟨default,default,default,default,default⟩⟩
def fG (n : String) (t o b : Nat) : Field := ⟨n, t, o, false, "", "", b⟩
def cm (n : String) (t o b : Nat) (p : String) : Field := ⟨n, t, o, false, "", p, b⟩
theorem aI {P : Program} {f : FuncId} {fn : Func} (h : P.funcs[f]? = some fn) (a : (fn.name == "runtime.NumGoroutine") = false := by kernel_rfl) (b : fn.body.isNone = false := by kernel_rfl) : Has P f := ⟨⟨fn, h, a, b⟩⟩
theorem all_map {α β:Type} {g:Nat->β} {k:α->β}: ∀{l:List (Nat×α)},l.map (λe=>g e.1)=l.map (λe=>k e.2)->Fo (λt d=>g t=k d) l
 |[],_=>trivial
 |_::_,h=>⟨(List.cons.inj h).1,all_map (List.cons.inj h).2⟩
def Ty.om {P:Program} (us:List (Nat×TypeDesc)) (is:List (Nat×(Nat×Nat×Value))) (hu:us.map (λe=>P.underlying e.1)=us.map (λe=>some e.2):=by kernel_rfl)
 (hi:is.map (λe=>(P.info? e.1).map λi=>(i.size,i.bytes,i.zero))=is.map (λe=>some (e.2.1,e.2.2.1,some e.2.2.2)):=by kernel_rfl):Ty P:=
 Ty.of us is (all_map hu) (all_map (k:=λd:Nat×Nat×Value=>some (d.1,d.2.1,some d.2.2)) hi)
theorem u3:Tryz.prog.underlying 3=some (.int .i64):=aB
theorem lO:Tryz.prog.underlying 76=some (.array 2 3):=aB
noncomputable def T : Ty Tryz.prog := Ty.om [(2, .int .i64), (3, .int .i64), (4, .bool), (5, .int .u8), (9, .string), (21, .int .i32), (22, .slice 5), (23, .slice 97), (24, .slice 3), (25, .pointer 103), (30, .struct #[(fG "W" 3 0 0), (fG "H" 3 1 8), (fG "C" 22 2 16)]), (40, .slice 55), (43, .slice 4), (44, .int .u64), (46, .struct #[(fG "Rebuilds" 44 0 0), (fG "Searches" 44 1 8), (fG "Builds" 44 2 16), (fG "Hits" 44 3 24), (fG "Stale" 44 4 32), (fG "Evicts" 44 5 40)]), (48, .slice 67), (50, .slice 94), (52, .struct #[(fG "Code" 3 0 0), (fG "D" 3 1 8), (fG "Dir" 3 2 16), (fG "Id" 3 3 24), (fG "Moves" 50 4 32), (fG "Gone" 24 5 56), (fG "Stats" 46 6 80)]), (55, .struct #[(fG "Kind" 3 0 0), (fG "A" 3 1 8), (fG "B" 3 2 16), (fG "Map" 22 3 24)]), (59, .slice 120), (63, .slice 65), (65, .int .u32), (67, .struct #[(fG "Id" 3 0 0), (fG "Cell" 3 1 8), (fG "Goal" 3 2 16)]), (74, .slice 76), (76, .array 2 3), (79, .struct #[(fG "Dist" 24 0 0), (fG "Dir" 24 1 24)]), (88, .pointer 135), (94, .struct #[(fG "Id" 3 0 0), (fG "To" 3 1 8)]), (97, .struct #[(fG "Kind" 3 0 0), (fG "A" 3 1 8), (fG "B" 3 2 16)]), (101, .pointer 146), (103, .struct #[(cm "most" 3 0 0 "herdsman/svc"), (cm "nav" 88 1 8 "herdsman/svc"), (cm "crowd" 101 2 16 "herdsman/svc")]), (106, .interface #[("Error", 415)]), (110, .pointer 112), (112, .struct #[(cm "kind" 3 0 0 "herdsman/svc"), (cm "of" 106 1 8 "herdsman/svc")]), (117, .map 3 59), (118, .map 76 3), (120, .struct #[(fG "Goal" 3 0 0), (fG "Sector" 3 1 8), (fG "Ids" 24 2 16)]), (122, .map 3 4), (123, .array 6 44), (130, .pointer 167), (131, .pointer 213), (132, .pointer 233), (133, .pointer 173), (135, .struct #[(cm "grid" 130 0 0 "herdsman/nav"), (cm "mesh" 131 1 8 "herdsman/nav"), (cm "finder" 132 2 16 "herdsman/nav"), (cm "shelf" 133 3 24 "herdsman/nav"), (cm "past" 46 4 32 "herdsman/nav")]), (136, .int .u64), (139, .struct #[(fG "W" 3 0 0), (fG "H" 3 1 8), (fG "C" 22 2 16)]), (143, .pointer 178), (144, .pointer 221), (146, .struct #[(cm "w" 3 0 0 "herdsman/crowd"), (cm "h" 3 1 8 "herdsman/crowd"), (cm "most" 3 2 16 "herdsman/crowd"), (cm "units" 143 3 24 "herdsman/crowd"), (cm "floor" 144 4 32 "herdsman/crowd")]), (148, .int .i64), (160, .pointer 148), (165, .slice 2), (167, .struct #[(cm "m" 30 0 0 "herdsman/grid"), (cm "epoch" 2 3 40 "herdsman/grid"), (cm "versions" 165 4 48 "herdsman/grid")]), (169, .pointer 238), (171, .slice 291), (173, .struct #[(cm "keys" 169 0 0 "herdsman/shelf"), (cm "fields" 171 1 8 "herdsman/shelf"), (cm "count" 46 2 32 "herdsman/shelf")]), (176, .map 3 67), (178, .struct #[(cm "most" 3 0 0 "herdsman/units"), (cm "next" 3 1 8 "herdsman/units"), (cm "live" 176 2 16 "herdsman/units"), (cm "order" 24 3 24 "herdsman/units")]), (180, .struct #[(cm "a" 3 0 0 "herdsman/op"), (cm "b" 3 1 8 "herdsman/op"), (cm "load" 4 2 16 "herdsman/op")]), (211, .slice 217), (213, .struct #[(cm "g" 130 0 0 "herdsman/mesh"), (cm "parts" 211 1 8 "herdsman/mesh"), (cm "clean" 2 2 32 "herdsman/mesh"), (cm "count" 44 3 40 "herdsman/mesh")]), (215, .slice 21), (217, .struct #[(cm "version" 2 0 0 "herdsman/mesh"), (cm "nodes" 24 1 8 "herdsman/mesh"), (cm "dist" 215 2 32 "herdsman/mesh")]), (221, .struct #[(cm "words" 63 0 0 "herdsman/floor"), (cm "count" 3 1 24 "herdsman/floor")]), (222, .pointer 224), (224, .struct #[(cm "goal" 3 0 0 "herdsman/nav"), (cm "of" 106 1 8 "herdsman/nav")]), (227, .slice 285), (229, .pointer 235), (233, .struct #[(cm "m" 131 0 0 "herdsman/route"), (cm "g" 130 1 8 "herdsman/route"), (cm "kept" 229 2 16 "herdsman/route"), (cm "count" 44 3 24 "herdsman/route")]), (235, .struct #[(cm "goal" 3 0 0 "herdsman/route"), (cm "epoch" 2 1 8 "herdsman/route"), (cm "dist" 215 2 16 "herdsman/route")]), (236, .slice 278), (238, .struct #[(cm "k" 3 0 0 "herdsman/lru"), (cm "seats" 236 1 8 "herdsman/lru"), (cm "slots" 118 2 32 "herdsman/lru"), (cm "newest" 3 3 40 "herdsman/lru"), (cm "oldest" 3 4 48 "herdsman/lru")]), (243, .int .i64), (244, .pointer 243), (258, .map 3 3), (278, .struct #[(cm "key" 76 0 0 "herdsman/lru"), (cm "newer" 3 2 16 "herdsman/lru"), (cm "old" 3 3 24 "herdsman/lru")]), (280, .slice 283), (283, .struct #[(fG "To" 3 0 0), (fG "Cost" 3 1 8)]), (285, .struct #[(fG "Cell" 3 0 0), (fG "Side" 3 1 8), (fG "Key" 3 2 16)]), (291, .struct #[(cm "version" 2 0 0 "herdsman/shelf"), (cm "seeds" 227 1 8 "herdsman/shelf"), (cm "field" 79 2 32 "herdsman/shelf")]), (301, .pointer 303), (303, .struct #[(cm "sector" 3 0 0 "herdsman/atlas"), (cm "of" 106 1 8 "herdsman/atlas")]), (309, .struct #[(cm "w" 3 0 0 "herdsman/march"), (cm "h" 3 1 8 "herdsman/march"), (cm "stand" 122 2 16 "herdsman/march"), (cm "moves" 50 3 24 "herdsman/march"), (cm "gone" 24 4 48 "herdsman/march")]), (314, .array 4 3), (320, .pointer 357), (337, .struct #[(cm "t" 139 0 0 "herdsman/steer"), (cm "l" 227 3 40 "herdsman/steer"), (cm "dist" 24 4 64 "herdsman/steer")]), (340, .struct #[(cm "b" 22 0 0 "herdsman/pack"), (cm "at" 3 1 24 "herdsman/pack")]), (343, .pointer 346), (344, .pointer 343), (346, .struct #[(cm "at" 3 0 0 "herdsman/pack"), (cm "code" 3 1 8 "herdsman/pack"), (cm "of" 106 2 16 "herdsman/pack")]), (355, .slice 359), (357, .struct #[(cm "l" 355 0 0 "herdsman/heap")]), (359, .struct #[(cm "key" 3 0 0 "herdsman/heap"), (cm "item" 3 1 8 "herdsman/heap")]), (360, .pointer 217), (365, .pointer 396), (369, .struct #[(cm "t" 139 0 0 "herdsman/sweep"), (cm "wait" 365 3 40 "herdsman/sweep"), (cm "todo" 227 4 48 "herdsman/sweep"), (cm "dist" 24 5 72 "herdsman/sweep")]), (393, .struct #[(cm "items" 24 0 0 "herdsman/ring"), (cm "gone" 3 1 24 "herdsman/ring")]), (394, .array 256 393), (396, .struct #[(cm "at" 3 0 0 "herdsman/ring"), (cm "len" 3 1 8 "herdsman/ring"), (cm "buckets" 394 2 16 "herdsman/ring")])]
 [(2,(1,8,(ii 0))),(3,(1,8,(ii 0))),(4,(1,1,(bb false))),(5,(1,1,(.int .u8 0))),(21,(1,4,(.int .i32 0))),(22,(1,24,nl)),(24,(1,24,nl)),(30,(3,40,(.agg #[(ii 0),(ii 0),nl]))),(44,(1,8,(uu 0))),(46,(6,48,(.agg #[(uu 0),(uu 0),(uu 0),(uu 0),(uu 0),(uu 0)]))),(50,(1,24,nl)),(52,(12,128,(.agg #[(ii 0),(ii 0),(ii 0),(ii 0),nl,nl,(uu 0),(uu 0),(uu 0),(uu 0),(uu 0),(uu 0)]))),(55,(4,48,(.agg #[(ii 0),(ii 0),(ii 0),nl]))),(59,(1,24,nl)),(63,(1,24,nl)),(65,(1,4,(.int .u32 0))),(67,(3,24,(.agg #[(ii 0),(ii 0),(ii 0)]))),(76,(2,16,(.agg #[(ii 0),(ii 0)]))),(79,(2,48,(.agg #[nl,nl]))),(88,(1,8,(.pointer none))),(94,(2,16,(.agg #[(ii 0),(ii 0)]))),(97,(3,24,(.agg #[(ii 0),(ii 0),(ii 0)]))),(101,(1,8,(.pointer none))),(103,(3,24,(.agg #[(ii 0),(.pointer none),(.pointer none)]))),(106,(1,16,.nilIface)),(112,(2,24,(.agg #[(ii 0),.nilIface]))),(118,(1,8,(.map none))),(120,(3,40,(.agg #[(ii 0),(ii 0),nl]))),(122,(1,8,(.map none))),(123,(6,48,(.agg #[(uu 0),(uu 0),(uu 0),(uu 0),(uu 0),(uu 0)]))),(130,(1,8,(.pointer none))),(131,(1,8,(.pointer none))),(132,(1,8,(.pointer none))),(133,(1,8,(.pointer none))),(135,(10,80,(.agg #[(.pointer none),(.pointer none),(.pointer none),(.pointer none),(uu 0),(uu 0),(uu 0),(uu 0),(uu 0),(uu 0)]))),(139,(3,40,(.agg #[(ii 0),(ii 0),nl]))),(143,(1,8,(.pointer none))),(144,(1,8,(.pointer none))),(146,(5,40,(.agg #[(ii 0),(ii 0),(ii 0),(.pointer none),(.pointer none)]))),(148,(1,8,(ii 0))),(165,(1,24,nl)),(167,(5,72,(.agg #[(ii 0),(ii 0),nl,(ii 0),nl]))),(169,(1,8,(.pointer none))),(171,(1,24,nl)),(173,(8,80,(.agg #[(.pointer none),nl,(uu 0),(uu 0),(uu 0),(uu 0),(uu 0),(uu 0)]))),(176,(1,8,(.map none))),(178,(4,48,(.agg #[(ii 0),(ii 0),(.map none),nl]))),(180,(3,24,(.agg #[(ii 0),(ii 0),(bb false)]))),(211,(1,24,nl)),(213,(4,48,(.agg #[(.pointer none),nl,(ii 0),(uu 0)]))),(215,(1,24,nl)),(217,(3,56,(.agg #[(ii 0),nl,nl]))),(221,(2,32,(.agg #[nl,(ii 0)]))),(224,(2,24,(.agg #[(ii 0),.nilIface]))),(227,(1,24,nl)),(229,(1,8,(.pointer none))),(233,(4,32,(.agg #[(.pointer none),(.pointer none),(.pointer none),(uu 0)]))),(235,(3,40,(.agg #[(ii 0),(ii 0),nl]))),(236,(1,24,nl)),(238,(5,56,(.agg #[(ii 0),nl,(.map none),(ii 0),(ii 0)]))),(243,(1,8,(ii 0))),(278,(4,32,(.agg #[(ii 0),(ii 0),(ii 0),(ii 0)]))),(283,(2,16,(.agg #[(ii 0),(ii 0)]))),(285,(3,24,(.agg #[(ii 0),(ii 0),(ii 0)]))),(291,(4,80,(.agg #[(ii 0),nl,nl,nl]))),(303,(2,24,(.agg #[(ii 0),.nilIface]))),(309,(5,72,(.agg #[(ii 0),(ii 0),(.map none),nl,nl]))),(314,(4,32,(.agg #[(ii 0),(ii 0),(ii 0),(ii 0)]))),(337,(5,88,(.agg #[(ii 0),(ii 0),nl,nl,nl]))),(340,(2,32,(.agg #[nl,(ii 0)]))),(343,(1,8,(.pointer none))),(346,(3,32,(.agg #[(ii 0),(ii 0),.nilIface]))),(355,(1,24,nl)),(357,(1,24,(.agg #[nl]))),(359,(2,16,(.agg #[(ii 0),(ii 0)]))),(365,(1,8,(.pointer none))),(369,(6,96,(.agg #[(ii 0),(ii 0),nl,(.pointer none),nl,nl]))),(393,(2,32,(.agg #[nl,(ii 0)]))),(394,(512,8192,(.agg #[nl,(ii 0),nl,(ii 0),nl,(ii 0),nl,(ii 0),nl,(ii 0),nl,(ii 0),nl,(ii 0),nl,(ii 0),nl,(ii 0),nl,(ii 0),nl,(ii 0),nl,(ii 0),nl,(ii 0),nl,(ii 0),nl,(ii 0),nl,(ii 0),nl,(ii 0),nl,(ii 0),nl,(ii 0),nl,(ii 0),nl,(ii 0),nl,(ii 0),nl,(ii 0),nl,(ii 0),nl,(ii 0),nl,(ii 0),nl,(ii 0),nl,(ii 0),nl,(ii 0),nl,(ii 0),nl,(ii 0),nl,(ii 0),nl,(ii 0),nl,(ii 0),nl,(ii 0),nl,(ii 0),nl,(ii 0),nl,(ii 0),nl,(ii 0),nl,(ii 0),nl,(ii 0),nl,(ii 0),nl,(ii 0),nl,(ii 0),nl,(ii 0),nl,(ii 0),nl,(ii 0),nl,(ii 0),nl,(ii 0),nl,(ii 0),nl,(ii 0),nl,(ii 0),nl,(ii 0),nl,(ii 0),nl,(ii 0),nl,(ii 0),nl,(ii 0),nl,(ii 0),nl,(ii 0),nl,(ii 0),nl,(ii 0),nl,(ii 0),nl,(ii 0),nl,(ii 0),nl,(ii 0),nl,(ii 0),nl,(ii 0),nl,(ii 0),nl,(ii 0),nl,(ii 0),nl,(ii 0),nl,(ii 0),nl,(ii 0),nl,(ii 0),nl,(ii 0),nl,(ii 0),nl,(ii 0),nl,(ii 0),nl,(ii 0),nl,(ii 0),nl,(ii 0),nl,(ii 0),nl,(ii 0),nl,(ii 0),nl,(ii 0),nl,(ii 0),nl,(ii 0),nl,(ii 0),nl,(ii 0),nl,(ii 0),nl,(ii 0),nl,(ii 0),nl,(ii 0),nl,(ii 0),nl,(ii 0),nl,(ii 0),nl,(ii 0),nl,(ii 0),nl,(ii 0),nl,(ii 0),nl,(ii 0),nl,(ii 0),nl,(ii 0),nl,(ii 0),nl,(ii 0),nl,(ii 0),nl,(ii 0),nl,(ii 0),nl,(ii 0),nl,(ii 0),nl,(ii 0),nl,(ii 0),nl,(ii 0),nl,(ii 0),nl,(ii 0),nl,(ii 0),nl,(ii 0),nl,(ii 0),nl,(ii 0),nl,(ii 0),nl,(ii 0),nl,(ii 0),nl,(ii 0),nl,(ii 0),nl,(ii 0),nl,(ii 0),nl,(ii 0),nl,(ii 0),nl,(ii 0),nl,(ii 0),nl,(ii 0),nl,(ii 0),nl,(ii 0),nl,(ii 0),nl,(ii 0),nl,(ii 0),nl,(ii 0),nl,(ii 0),nl,(ii 0),nl,(ii 0),nl,(ii 0),nl,(ii 0),nl,(ii 0),nl,(ii 0),nl,(ii 0),nl,(ii 0),nl,(ii 0),nl,(ii 0),nl,(ii 0),nl,(ii 0),nl,(ii 0),nl,(ii 0),nl,(ii 0),nl,(ii 0),nl,(ii 0),nl,(ii 0),nl,(ii 0),nl,(ii 0),nl,(ii 0),nl,(ii 0),nl,(ii 0),nl,(ii 0),nl,(ii 0),nl,(ii 0),nl,(ii 0),nl,(ii 0),nl,(ii 0),nl,(ii 0),nl,(ii 0),nl,(ii 0),nl,(ii 0),nl,(ii 0),nl,(ii 0),nl,(ii 0),nl,(ii 0),nl,(ii 0),nl,(ii 0),nl,(ii 0),nl,(ii 0),nl,(ii 0),nl,(ii 0),nl,(ii 0),nl,(ii 0),nl,(ii 0),nl,(ii 0),nl,(ii 0),nl,(ii 0),nl,(ii 0),nl,(ii 0),nl,(ii 0),nl,(ii 0),nl,(ii 0),nl,(ii 0),nl,(ii 0),nl,(ii 0),nl,(ii 0),nl,(ii 0),nl,(ii 0),nl,(ii 0),nl,(ii 0),nl,(ii 0),nl,(ii 0),nl,(ii 0),nl,(ii 0),nl,(ii 0),nl,(ii 0),nl,(ii 0),nl,(ii 0),nl,(ii 0),nl,(ii 0),nl,(ii 0),nl,(ii 0),nl,(ii 0),nl,(ii 0),nl,(ii 0),nl,(ii 0),nl,(ii 0),nl,(ii 0),nl,(ii 0),nl,(ii 0),nl,(ii 0),nl,(ii 0),nl,(ii 0),nl,(ii 0),nl,(ii 0),nl,(ii 0),nl,(ii 0),nl,(ii 0),nl,(ii 0),nl,(ii 0),nl,(ii 0),nl,(ii 0),nl,(ii 0),nl,(ii 0),nl,(ii 0),nl,(ii 0),nl,(ii 0),nl,(ii 0),nl,(ii 0),nl,(ii 0),nl,(ii 0),nl,(ii 0),nl,(ii 0),nl,(ii 0),nl,(ii 0),nl,(ii 0),nl,(ii 0),nl,(ii 0),nl,(ii 0),nl,(ii 0),nl,(ii 0),nl,(ii 0),nl,(ii 0),nl,(ii 0),nl,(ii 0),nl,(ii 0)]))),(396,(514,8208,(.agg #[(ii 0),(ii 0),nl,(ii 0),nl,(ii 0),nl,(ii 0),nl,(ii 0),nl,(ii 0),nl,(ii 0),nl,(ii 0),nl,(ii 0),nl,(ii 0),nl,(ii 0),nl,(ii 0),nl,(ii 0),nl,(ii 0),nl,(ii 0),nl,(ii 0),nl,(ii 0),nl,(ii 0),nl,(ii 0),nl,(ii 0),nl,(ii 0),nl,(ii 0),nl,(ii 0),nl,(ii 0),nl,(ii 0),nl,(ii 0),nl,(ii 0),nl,(ii 0),nl,(ii 0),nl,(ii 0),nl,(ii 0),nl,(ii 0),nl,(ii 0),nl,(ii 0),nl,(ii 0),nl,(ii 0),nl,(ii 0),nl,(ii 0),nl,(ii 0),nl,(ii 0),nl,(ii 0),nl,(ii 0),nl,(ii 0),nl,(ii 0),nl,(ii 0),nl,(ii 0),nl,(ii 0),nl,(ii 0),nl,(ii 0),nl,(ii 0),nl,(ii 0),nl,(ii 0),nl,(ii 0),nl,(ii 0),nl,(ii 0),nl,(ii 0),nl,(ii 0),nl,(ii 0),nl,(ii 0),nl,(ii 0),nl,(ii 0),nl,(ii 0),nl,(ii 0),nl,(ii 0),nl,(ii 0),nl,(ii 0),nl,(ii 0),nl,(ii 0),nl,(ii 0),nl,(ii 0),nl,(ii 0),nl,(ii 0),nl,(ii 0),nl,(ii 0),nl,(ii 0),nl,(ii 0),nl,(ii 0),nl,(ii 0),nl,(ii 0),nl,(ii 0),nl,(ii 0),nl,(ii 0),nl,(ii 0),nl,(ii 0),nl,(ii 0),nl,(ii 0),nl,(ii 0),nl,(ii 0),nl,(ii 0),nl,(ii 0),nl,(ii 0),nl,(ii 0),nl,(ii 0),nl,(ii 0),nl,(ii 0),nl,(ii 0),nl,(ii 0),nl,(ii 0),nl,(ii 0),nl,(ii 0),nl,(ii 0),nl,(ii 0),nl,(ii 0),nl,(ii 0),nl,(ii 0),nl,(ii 0),nl,(ii 0),nl,(ii 0),nl,(ii 0),nl,(ii 0),nl,(ii 0),nl,(ii 0),nl,(ii 0),nl,(ii 0),nl,(ii 0),nl,(ii 0),nl,(ii 0),nl,(ii 0),nl,(ii 0),nl,(ii 0),nl,(ii 0),nl,(ii 0),nl,(ii 0),nl,(ii 0),nl,(ii 0),nl,(ii 0),nl,(ii 0),nl,(ii 0),nl,(ii 0),nl,(ii 0),nl,(ii 0),nl,(ii 0),nl,(ii 0),nl,(ii 0),nl,(ii 0),nl,(ii 0),nl,(ii 0),nl,(ii 0),nl,(ii 0),nl,(ii 0),nl,(ii 0),nl,(ii 0),nl,(ii 0),nl,(ii 0),nl,(ii 0),nl,(ii 0),nl,(ii 0),nl,(ii 0),nl,(ii 0),nl,(ii 0),nl,(ii 0),nl,(ii 0),nl,(ii 0),nl,(ii 0),nl,(ii 0),nl,(ii 0),nl,(ii 0),nl,(ii 0),nl,(ii 0),nl,(ii 0),nl,(ii 0),nl,(ii 0),nl,(ii 0),nl,(ii 0),nl,(ii 0),nl,(ii 0),nl,(ii 0),nl,(ii 0),nl,(ii 0),nl,(ii 0),nl,(ii 0),nl,(ii 0),nl,(ii 0),nl,(ii 0),nl,(ii 0),nl,(ii 0),nl,(ii 0),nl,(ii 0),nl,(ii 0),nl,(ii 0),nl,(ii 0),nl,(ii 0),nl,(ii 0),nl,(ii 0),nl,(ii 0),nl,(ii 0),nl,(ii 0),nl,(ii 0),nl,(ii 0),nl,(ii 0),nl,(ii 0),nl,(ii 0),nl,(ii 0),nl,(ii 0),nl,(ii 0),nl,(ii 0),nl,(ii 0),nl,(ii 0),nl,(ii 0),nl,(ii 0),nl,(ii 0),nl,(ii 0),nl,(ii 0),nl,(ii 0),nl,(ii 0),nl,(ii 0),nl,(ii 0),nl,(ii 0),nl,(ii 0),nl,(ii 0),nl,(ii 0),nl,(ii 0),nl,(ii 0),nl,(ii 0),nl,(ii 0),nl,(ii 0),nl,(ii 0),nl,(ii 0),nl,(ii 0),nl,(ii 0),nl,(ii 0),nl,(ii 0),nl,(ii 0),nl,(ii 0),nl,(ii 0),nl,(ii 0),nl,(ii 0),nl,(ii 0),nl,(ii 0),nl,(ii 0),nl,(ii 0),nl,(ii 0),nl,(ii 0),nl,(ii 0),nl,(ii 0),nl,(ii 0),nl,(ii 0),nl,(ii 0),nl,(ii 0),nl,(ii 0),nl,(ii 0),nl,(ii 0),nl,(ii 0),nl,(ii 0),nl,(ii 0),nl,(ii 0),nl,(ii 0),nl,(ii 0),nl,(ii 0),nl,(ii 0),nl,(ii 0),nl,(ii 0),nl,(ii 0),nl,(ii 0),nl,(ii 0),nl,(ii 0),nl,(ii 0)])))]
abbrev aH:=Has Tryz.prog
theorem ab5:aH 11:=aI Tryz.func11
theorem kT:aH 12:=aI Tryz.func12
theorem acg:aH 13:=aI Tryz.func13
theorem SL:aH 14:=aI Tryz.func14
theorem acm:aH 15:=aI Tryz.func15
theorem acx:aH 17:=aI Tryz.func17
theorem acD:aH 18:=aI Tryz.func18
theorem S6:aH 19:=aI Tryz.func19
theorem acP:aH 20:=aI Tryz.func20
theorem Tc:aH 21:=aI Tryz.func21
theorem Tf:aH 22:=aI Tryz.func22
theorem ac5:aH 23:=aI Tryz.func23
theorem Gy:aH 24:=aI Tryz.func24
theorem Ny:aH 25:=aI Tryz.func25
theorem sF:aH 26:=aI Tryz.func26
theorem adx:aH 28:=aI Tryz.func28
theorem adC:aH 29:=aI Tryz.func29
theorem adM:aH 35:=aI Tryz.func35
theorem Tu:aH 36:=aI Tryz.func36
theorem Tv:aH 37:=aI Tryz.func37
theorem adN:aH 38:=aI Tryz.func38
theorem adO:aH 39:=aI Tryz.func39
theorem adP:aH 41:=aI Tryz.func41
theorem JZ:aH 42:=aI Tryz.func42
theorem adQ:aH 43:=aI Tryz.func43
theorem adR:aH 44:=aI Tryz.func44
theorem ND:aH 45:=aI Tryz.func45
theorem adS:aH 46:=aI Tryz.func46
theorem A_:aH 47:=aI Tryz.func47
theorem Tw:aH 48:=aI Tryz.func48
theorem NF:aH 49:=aI Tryz.func49
theorem adT:aH 50:=aI Tryz.func50
theorem adU:aH 51:=aI Tryz.func51
theorem adV:aH 52:=aI Tryz.func52
theorem Tx:aH 53:=aI Tryz.func53
theorem J0:aH 54:=aI Tryz.func54
theorem adW:aH 55:=aI Tryz.func55
theorem adX:aH 56:=aI Tryz.func56
theorem NG:aH 57:=aI Tryz.func57
theorem NH:aH 58:=aI Tryz.func58
theorem GA:aH 59:=aI Tryz.func59
theorem Tz:aH 61:=aI Tryz.func61
theorem qy:aH 62:=aI Tryz.func62
theorem adY:aH 66:=aI Tryz.func66
theorem NI:aH 67:=aI Tryz.func67
theorem NJ:aH 68:=aI Tryz.func68
theorem TA:aH 69:=aI Tryz.func69
theorem NK:aH 70:=aI Tryz.func70
theorem TB:aH 71:=aI Tryz.func71
theorem adZ:aH 73:=aI Tryz.func73
theorem TC:aH 74:=aI Tryz.func74
theorem ad0:aH 75:=aI Tryz.func75
theorem ad1:aH 76:=aI Tryz.func76
theorem ad2:aH 77:=aI Tryz.func77
theorem NL:aH 78:=aI Tryz.func78
theorem TD:aH 79:=aI Tryz.func79
theorem ad3:aH 80:=aI Tryz.func80
theorem ad4:aH 81:=aI Tryz.func81
theorem ad5:aH 82:=aI Tryz.func82
theorem ad6:aH 83:=aI Tryz.func83
theorem ad7:aH 84:=aI Tryz.func84
theorem ad8:aH 85:=aI Tryz.func85
theorem ad9:aH 86:=aI Tryz.func86
theorem ad_:aH 87:=aI Tryz.func87
theorem wo:aH 88:=aI Tryz.func88
theorem TE:aH 89:=aI Tryz.func89
theorem TF:aH 90:=aI Tryz.func90
theorem ad':aH 91:=aI Tryz.func91
theorem aea:aH 92:=aI Tryz.func92
theorem J1:aH 93:=aI Tryz.func93
theorem J2:aH 94:=aI Tryz.func94
theorem NM:aH 95:=aI Tryz.func95
theorem Cw:aH 96:=aI Tryz.func96
theorem aeb:aH 97:=aI Tryz.func97
theorem aec:aH 99:=aI Tryz.func99
theorem SE:aH 100:=aI Tryz.func100
theorem SF:aH 101:=aI Tryz.func101
theorem Nh:aH 103:=aI Tryz.func103
theorem ab3:aH 104:=aI Tryz.func104
theorem ab4:aH 105:=aI Tryz.func105
theorem JQ:aH 106:=aI Tryz.func106
theorem SG:aH 107:=aI Tryz.func107
theorem SH:aH 108:=aI Tryz.func108
theorem SI:aH 109:=aI Tryz.func109
theorem ab6:aH 110:=aI Tryz.func110
theorem Ni:aH 111:=aI Tryz.func111
theorem Nj:aH 112:=aI Tryz.func112
theorem JR:aH 113:=aI Tryz.func113
theorem ab7:aH 114:=aI Tryz.func114
theorem ab8:aH 115:=aI Tryz.func115
theorem ab9:aH 116:=aI Tryz.func116
theorem Nl:aH 117:=aI Tryz.func117
theorem SJ:aH 118:=aI Tryz.func118
theorem ab_:aH 119:=aI Tryz.func119
theorem ab':aH 120:=aI Tryz.func120
theorem aca:aH 121:=aI Tryz.func121
theorem Ct:aH 122:=aI Tryz.func122
theorem Nn:aH 123:=aI Tryz.func123
theorem SK:aH 124:=aI Tryz.func124
theorem Np:aH 125:=aI Tryz.func125
theorem acb:aH 126:=aI Tryz.func126
theorem acd:aH 127:=aI Tryz.func127
theorem ace:aH 128:=aI Tryz.func128
theorem acf:aH 129:=aI Tryz.func129
theorem Cu:aH 136:=aI Tryz.func136
theorem Cv:aH 137:=aI Tryz.func137
theorem ach:aH 139:=aI Tryz.func139
theorem SM:aH 140:=aI Tryz.func140
theorem wm:aH 141:=aI Tryz.func141
theorem SN:aH 142:=aI Tryz.func142
theorem aci:aH 143:=aI Tryz.func143
theorem Ej:aH 144:=aI Tryz.func144
theorem SP:aH 145:=aI Tryz.func145
theorem acj:aH 146:=aI Tryz.func146
theorem ack:aH 147:=aI Tryz.func147
theorem SQ:aH 148:=aI Tryz.func148
theorem SR:aH 149:=aI Tryz.func149
theorem SS:aH 150:=aI Tryz.func150
theorem SU:aH 151:=aI Tryz.func151
theorem acn:aH 152:=aI Tryz.func152
theorem SV:aH 153:=aI Tryz.func153
theorem Gu:aH 154:=aI Tryz.func154
theorem aco:aH 155:=aI Tryz.func155
theorem acp:aH 156:=aI Tryz.func156
theorem SX:aH 157:=aI Tryz.func157
theorem Nq:aH 158:=aI Tryz.func158
theorem acq:aH 159:=aI Tryz.func159
theorem SY:aH 160:=aI Tryz.func160
theorem SZ:aH 161:=aI Tryz.func161
theorem acr:aH 162:=aI Tryz.func162
theorem acs:aH 163:=aI Tryz.func163
theorem S0:aH 164:=aI Tryz.func164
theorem Gv:aH 165:=aI Tryz.func165
theorem acu:aH 166:=aI Tryz.func166
theorem acv:aH 167:=aI Tryz.func167
theorem acw:aH 168:=aI Tryz.func168
theorem vc:aH 171:=aI Tryz.func171
theorem Gw:aH 172:=aI Tryz.func172
theorem JS:aH 173:=aI Tryz.func173
theorem acy:aH 174:=aI Tryz.func174
theorem JT:aH 175:=aI Tryz.func175
theorem acz:aH 176:=aI Tryz.func176
theorem acA:aH 177:=aI Tryz.func177
theorem acB:aH 178:=aI Tryz.func178
theorem acC:aH 179:=aI Tryz.func179
theorem Gx:aH 180:=aI Tryz.func180
theorem acE:aH 181:=aI Tryz.func181
theorem acF:aH 182:=aI Tryz.func182
theorem S3:aH 183:=aI Tryz.func183
theorem acG:aH 184:=aI Tryz.func184
theorem acH:aH 185:=aI Tryz.func185
theorem JU:aH 186:=aI Tryz.func186
theorem S4:aH 187:=aI Tryz.func187
theorem acI:aH 188:=aI Tryz.func188
theorem S5:aH 189:=aI Tryz.func189
theorem Nr:aH 190:=aI Tryz.func190
theorem acJ:aH 191:=aI Tryz.func191
theorem acK:aH 192:=aI Tryz.func192
theorem acL:aH 193:=aI Tryz.func193
theorem Ns:aH 194:=aI Tryz.func194
theorem S7:aH 195:=aI Tryz.func195
theorem S8:aH 196:=aI Tryz.func196
theorem acM:aH 197:=aI Tryz.func197
theorem acN:aH 198:=aI Tryz.func198
theorem acO:aH 199:=aI Tryz.func199
theorem acQ:aH 200:=aI Tryz.func200
theorem S9:aH 201:=aI Tryz.func201
theorem S_:aH 202:=aI Tryz.func202
theorem acR:aH 203:=aI Tryz.func203
theorem Nt:aH 204:=aI Tryz.func204
theorem Ta:aH 205:=aI Tryz.func205
theorem Tb:aH 206:=aI Tryz.func206
theorem A9:aH 207:=aI Tryz.func207
theorem acS:aH 208:=aI Tryz.func208
theorem acT:aH 210:=aI Tryz.func210
theorem acU:aH 211:=aI Tryz.func211
theorem acV:aH 212:=aI Tryz.func212
theorem Td:aH 213:=aI Tryz.func213
theorem acW:aH 214:=aI Tryz.func214
theorem acX:aH 215:=aI Tryz.func215
theorem Te:aH 216:=aI Tryz.func216
theorem JV:aH 217:=aI Tryz.func217
theorem JW:aH 218:=aI Tryz.func218
theorem acY:aH 219:=aI Tryz.func219
theorem JX:aH 220:=aI Tryz.func220
theorem acZ:aH 221:=aI Tryz.func221
theorem ac0:aH 222:=aI Tryz.func222
theorem ac1:aH 223:=aI Tryz.func223
theorem Tg:aH 224:=aI Tryz.func224
theorem ac2:aH 225:=aI Tryz.func225
theorem ac3:aH 226:=aI Tryz.func226
theorem Nu:aH 227:=aI Tryz.func227
theorem Th:aH 228:=aI Tryz.func228
theorem ac4:aH 229:=aI Tryz.func229
theorem ac6:aH 230:=aI Tryz.func230
theorem ac7:aH 231:=aI Tryz.func231
theorem ac8:aH 232:=aI Tryz.func232
theorem ac9:aH 233:=aI Tryz.func233
theorem ac_:aH 234:=aI Tryz.func234
theorem ac':aH 235:=aI Tryz.func235
theorem ada:aH 236:=aI Tryz.func236
theorem Nv:aH 237:=aI Tryz.func237
theorem adb:aH 238:=aI Tryz.func238
theorem Nw:aH 239:=aI Tryz.func239
theorem ade:aH 240:=aI Tryz.func240
theorem adf:aH 241:=aI Tryz.func241
theorem adg:aH 242:=aI Tryz.func242
theorem Ti:aH 243:=aI Tryz.func243
theorem adh:aH 244:=aI Tryz.func244
theorem Tj:aH 245:=aI Tryz.func245
theorem adi:aH 246:=aI Tryz.func246
theorem Tk:aH 247:=aI Tryz.func247
theorem Nx:aH 248:=aI Tryz.func248
theorem adj:aH 249:=aI Tryz.func249
theorem Tl:aH 250:=aI Tryz.func250
theorem adk:aH 251:=aI Tryz.func251
theorem adl:aH 252:=aI Tryz.func252
theorem adm:aH 253:=aI Tryz.func253
theorem adn:aH 254:=aI Tryz.func254
theorem ado:aH 255:=aI Tryz.func255
theorem adp:aH 264:=aI Tryz.func264
theorem JY:aH 265:=aI Tryz.func265
theorem adq:aH 266:=aI Tryz.func266
theorem adr:aH 267:=aI Tryz.func267
theorem ads:aH 269:=aI Tryz.func269
theorem Tm:aH 270:=aI Tryz.func270
theorem adt:aH 271:=aI Tryz.func271
theorem adu:aH 272:=aI Tryz.func272
theorem Nz:aH 273:=aI Tryz.func273
theorem NA:aH 274:=aI Tryz.func274
theorem adv:aH 275:=aI Tryz.func275
theorem adw:aH 276:=aI Tryz.func276
theorem xP:aH 277:=aI Tryz.func277
theorem NB:aH 278:=aI Tryz.func278
theorem Tn:aH 279:=aI Tryz.func279
theorem Tq:aH 280:=aI Tryz.func280
theorem ady:aH 281:=aI Tryz.func281
theorem adz:aH 282:=aI Tryz.func282
theorem adA:aH 288:=aI Tryz.func288
theorem adB:aH 289:=aI Tryz.func289
theorem adD:aH 290:=aI Tryz.func290
theorem Tr:aH 291:=aI Tryz.func291
theorem Ts:aH 292:=aI Tryz.func292
theorem NC:aH 293:=aI Tryz.func293
theorem Gz:aH 294:=aI Tryz.func294
theorem adE:aH 295:=aI Tryz.func295
theorem adF:aH 297:=aI Tryz.func297
theorem adG:aH 299:=aI Tryz.func299
theorem adH:aH 300:=aI Tryz.func300
theorem Tt:aH 301:=aI Tryz.func301
theorem adI:aH 302:=aI Tryz.func302
theorem adJ:aH 303:=aI Tryz.func303
theorem adK:aH 304:=aI Tryz.func304
theorem adL:aH 305:=aI Tryz.func305
theorem mix:Tryz.prog.follows .mixedOrders=true:=aB
theorem aik:Tryz.prog.stoodInHeld 94=false/\Tryz.prog.eqGuardType Tryz.prog.depth 94=false:=⟨by kernel_rfl,by kernel_rfl⟩
theorem PM:Tryz.prog.stoodInHeld 285=false/\Tryz.prog.eqGuardType Tryz.prog.depth 285=false:=⟨by kernel_rfl,by kernel_rfl⟩
@[reducible] def X9 (o : Option fJ) (v : Value) (G : List Hp) : Prop := match o with
 |none=>v= .pointer none/\G=[]
 |some x=> ∃(b:Nat) (a0 n0 H0:_) (a1:Nat) (H1:Hp),aj j6 278 x.aw a0 n0 H0/\db (Ky.pair T .i64 rfl rfl rfl lO u3) (λx:Int=>Value.int .i64 x) x.fg a1 H1/\v= .pointer (some ⟨b,0,none⟩)/\G=[(cl b 238 [(ii x.k),(ll a0 x.aw n0),(.map (some a1)),(ii x.cJ),(ii x.dp)]),H0,H1]
def sb (x:ji) (b:Nat) (H:Hp):Prop:= ∃(b0:Nat) (a1 n1 H1:_) (a2:Nat) (H2:Hp) (a3 n3 H3:_),aj j6 278 x.keys.aw a1 n1 H1/\db (Ky.pair T .i64 rfl rfl rfl lO u3) (λx:Int=>Value.int .i64 x) x.keys.fg a2 H2/\gT EM 291 x.fields a3 n3 H3/\H=List.flatten [(cl b 173 [(pp b0),(ll a3 x.fields n3),(uu x.count.bM),(uu x.count.bN),(uu x.count.bJ),(uu x.count.bF),(uu x.count.bW),(uu x.count.bR)]),(cl b0 238 [(ii x.keys.k),(ll a1 x.keys.aw n1),(.map (some a2)),(ii x.keys.cJ),(ii x.keys.dp)]),H1,H2,H3]
@[reducible] def Yd (o : Option ji) (v : Value) (G : List Hp) : Prop := match o with
 |none=>v= .pointer none/\G=[]
 |some x=> ∃(b:Nat) (H:Hp),sb x b H/\v= .pointer (some ⟨b,0,none⟩)/\G=[H]
def iL (x:bx) (b:Nat) (H:Hp):Prop:= ∃a0 n0 H0 a1 n1 H1,aj (Fl.int .u8) 5 x.m.C a0 n0 H0/\aj (Fl.int .i64) 2 x.qf a1 n1 H1/\H=List.flatten [(cl b 167 [(ii x.m.W),(ii x.m.H),(ll a0 x.m.C n0),(ii x.bV),(ll a1 x.qf n1)]),H0,H1]
def ng (x:dO) (b:Nat) (l0:Nat) (H:Hp):Prop:= ∃a0 n0 H0,gT Pe 217 x.parts a0 n0 H0/\H=List.flatten [(cl b 213 [(pp l0),(ll a0 x.parts n0),(ii x.clean),(uu x.count)]),H0]
def LP (o:Option gO) (l0:Nat) (l1:Nat) (v0:Value) (H:Hp):Prop:=match o with
 |none=>v0= .pointer none/\H=[]
 |some y=> ∃(b0:Nat) (a1 n1 H1:_),aj (Fl.int .i32) 21 y.aN a1 n1 H1/\v0=(pp b0)/\H=List.flatten [(cl b0 235 [(ii y.goal),(ii y.bV),(ll a1 y.aN n1)]),H1]
def uP (x:kc) (b:Nat) (l0:Nat) (l1:Nat) (H:Hp):Prop:= ∃(v0:Value) (Ho:Hp),LP x.kept l0 l1 v0 Ho/\H=List.flatten [(cl b 233 [(pp l0),(pp l1),v0,(uu x.count)]),Ho]
def vM (o:Option fe) (v0 v1 v2:Value) (H:Hp):Prop:=match o with
 |none=>v0= .pointer none/\v1= .pointer none/\v2= .pointer none/\H=[]
 |some y=> ∃(b0:Nat) (H0:Hp) (b1:Nat) (H1:Hp) (b2:Nat) (H2:Hp),iL y.aK b0 H0/\ng y.jv b1 b0 H1/\uP y.kQ b2 b1 b0 H2/\v0=(pp b0)/\v1=(pp b1)/\v2=(pp b2)/\H=List.flatten [H0,H1,H2]
def gS (x:cI) (b:Nat) (H:Hp):Prop:= ∃(b0:Nat) (H0:Hp) (v0 v1 v2:Value) (Ho:Hp),sb x.gF b0 H0/\vM x.core v0 v1 v2 Ho/\H=List.flatten [(cl b 135 [v0,v1,v2,(pp b0),(uu x.aU.bM),(uu x.aU.bN),(uu x.aU.bJ),(uu x.aU.bF),(uu x.aU.bW),(uu x.aU.bR)]),H0,Ho]
@[reducible] def X' (o : Option cI) (v : Value) (G : List Hp) : Prop := match o with
 |none=>v= .pointer none/\G=[]
 |some x=> ∃(b:Nat) (H:Hp),gS x b H/\v= .pointer (some ⟨b,0,none⟩)/\G=[H]
def l_ (x:fA) (b:Nat) (H:Hp):Prop:= ∃(b0:Nat) (a1:Nat) (H1:Hp) (a2 n2 H2:_) (b3:Nat) (a4 n4 H4:_),db (Ky.int .i64 u3) (λx:bD=>Value.agg #[.int .i64 x.Id,.int .i64 x.Cell,.int .i64 x.Goal]) x.eY.live a1 H1/\aj (Fl.int .i64) 3 x.eY.order a2 n2 H2/\aj (Fl.int .u32) 65 x.floor.words a4 n4 H4/\H=List.flatten [(cl b 146 [(ii x.w),(ii x.h),(ii x.most),(pp b0),(pp b3)]),(cl b0 178 [(ii x.eY.most),(ii x.eY.next),(.map (some a1)),(ll a2 x.eY.order n2)]),H1,H2,(cl b3 221 [(ll a4 x.floor.words n4),(ii x.floor.count)]),H4]
def BW (o:Option fA) (v0:Value) (H:Hp):Prop:=match o with
 |none=>v0= .pointer none/\H=[]
 |some y=> ∃(b0:Nat) (H0:Hp),l_ y b0 H0/\v0=(pp b0)/\H=List.flatten [H0]
def fw (x:cg) (b:Nat) (H:Hp):Prop:= ∃(b0:Nat) (H0:Hp) (v0:Value) (Ho:Hp),gS x.nav b0 H0/\BW x.fE v0 Ho/\H=List.flatten [(cl b 103 [(ii x.most),(pp b0),v0]),H0,Ho]
@[reducible] def Qm (o : Option cg) (v : Value) (G : List Hp) : Prop := match o with
 |none=>v= .pointer none/\G=[]
 |some x=> ∃(b:Nat) (H:Hp),fw x b H/\v= .pointer (some ⟨b,0,none⟩)/\G=[H]
@[reducible] def X7 (o : Option bx) (v : Value) (G : List Hp) : Prop := match o with
 |none=>v= .pointer none/\G=[]
 |some x=> ∃(b:Nat) (H:Hp),iL x b H/\v= .pointer (some ⟨b,0,none⟩)/\G=[H]
@[reducible] def X_ (w0 : Nat) (o : Option dO) (v : Value) (G : List Hp) : Prop := match o with
 |none=>v= .pointer none/\G=[]
 |some x=> ∃(b:Nat) (H:Hp),ng x b w0 H/\v= .pointer (some ⟨b,0,none⟩)/\G=[H]
@[reducible] def Yb (w0 : Nat) (w1 : Nat) (o : Option kc) (v : Value) (G : List Hp) : Prop := match o with
 |none=>v= .pointer none/\G=[]
 |some x=> ∃(b:Nat) (H:Hp),uP x b w0 w1 H/\v= .pointer (some ⟨b,0,none⟩)/\G=[H]
@[reducible] def Ye (o : Option fN) (v : Value) (G : List Hp) : Prop := match o with
 |none=>v= .pointer none/\G=[]
 |some x=> ∃(b:Nat) (a0:Nat) (H0:Hp) (a1 n1 H1:_),db (Ky.int .i64 u3) (λx:bD=>Value.agg #[.int .i64 x.Id,.int .i64 x.Cell,.int .i64 x.Goal]) x.live a0 H0/\aj (Fl.int .i64) 3 x.order a1 n1 H1/\v= .pointer (some ⟨b,0,none⟩)/\G=[(cl b 178 [(ii x.most),(ii x.next),(.map (some a0)),(ll a1 x.order n1)]),H0,H1]
@[reducible] def X6 (o : Option kq) (v : Value) (G : List Hp) : Prop := match o with
 |none=>v= .pointer none/\G=[]
 |some x=> ∃(b:Nat) (a0 n0 H0:_),aj (Fl.int .u32) 65 x.words a0 n0 H0/\v= .pointer (some ⟨b,0,none⟩)/\G=[(cl b 221 [(ll a0 x.words n0),(ii x.count)]),H0]
@[reducible] def X5 (o : Option fA) (v : Value) (G : List Hp) : Prop := match o with
 |none=>v= .pointer none/\G=[]
 |some x=> ∃(b:Nat) (H:Hp),l_ x b H/\v= .pointer (some ⟨b,0,none⟩)/\G=[H]
def kJ (x:eX) (b:Nat) (H:Hp):Prop:=y_ Wr [.int .i64 x.aZ,.int .i64 x.len] x.buckets b 396 H/\List.length x.buckets=256
@[reducible] def Ya (o : Option eX) (v : Value) (G : List Hp) : Prop := match o with
 |none=>v= .pointer none/\G=[]
 |some x=> ∃(b:Nat) (H:Hp),kJ x b H/\v= .pointer (some ⟨b,0,none⟩)/\G=[H]
@[reducible] def X8 (o : Option eP) (v : Value) (G : List Hp) : Prop := match o with
 |none=>v= .pointer none/\G=[]
 |some x=> ∃(b:Nat) (a0 n0 H0:_),aj fR 359 x.l a0 n0 H0/\v= .pointer (some ⟨b,0,none⟩)/\G=[(cl b 357 [(ll a0 x.l n0)]),H0]
@[reducible] def Yc (o : Option gO) (v : Value) (G : List Hp) : Prop := match o with
 |none=>v= .pointer none/\G=[]
 |some x=> ∃(b:Nat) (a0 n0 H0:_),aj (Fl.int .i32) 21 x.aN a0 n0 H0/\v= .pointer (some ⟨b,0,none⟩)/\G=[(cl b 235 [(ii x.goal),(ii x.bV),(ll a0 x.aN n0)]),H0]
def Yf (r:Option gO) (x:kc) (b:Nat) (l0:Nat) (l1:Nat) (u:Value) (H:Hp):Prop:=match r with
 |none=>u= .pointer none/\uP x b l0 l1 H
 |some y=>x.kept=some y/\ ∃(b0:Nat) (a1 n1 H1:_),aj (Fl.int .i32) 21 y.aN a1 n1 H1/\u= .pointer (some ⟨b0,0,none⟩)/\H=List.flatten [(cl b 233 [(pp l0),(pp l1),(pp b0),(uu x.count)]),List.flatten [(cl b0 235 [(ii y.goal),(ii y.bV),(ll a1 y.aN n1)]),H1]]
abbrev QR:=CR Tryz.prog
abbrev QU:=CU Tryz.prog
abbrev bj:=Value->List Hp->Prop
theorem dB {p:Prop} (h:p:=by first|rfl|(simp only[ll,List.length_set];rfl)):p:=h
end Go.Proofs.YthodkonhneebbaaGreatDoor
