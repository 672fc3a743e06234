/- Part of the proof. No condition. -/
import Derived.Test.YthodkonhneebbaaGreatDoorProg
import Derived.KernelRfl
import Derived.Test.YthodkonhneebbaaGreatDoorKDErrs
import Derived.Test.YthodkonhneebbaaGreatDoorKDHz
namespace Go.Proofs.YthodkonhneebbaaGreatDoor
open Go.Hx
set_option maxRecDepth 100000
set_option linter.unusedSimpArgs false
set_option linter.unusedVariables false
structure sK where
 Kind:Int
 A:Int
 B:Int
instance :Inhabited sK:=⟨⟨default,default,default⟩⟩
def GK:Fl sK:=⟨3,λx=>[.int .i64 x.Kind,.int .i64 x.A,.int .i64 x.B],λ_=>rfl,λ_ v h=>by
 simp only[List.mem_cons,List.not_mem_nil,or_false] at h;rcases h with rfl |rfl |rfl<;>rfl,Nat.le_of_ble_eq_true rfl⟩
structure cV where
 Kind:Int
 A:Int
 B:Int
 Map:(List Int)
instance :Inhabited cV:=⟨⟨default,default,default,default⟩⟩
def He:Kd cV where
 size:=4
 own:=λx cs H=> ∃(a0:Option Addr) (n0:Nat) (H0:Hp),aj (Fl.int .u8) 5 x.Map a0 n0 H0/\cs=[.int .i64 x.Kind,.int .i64 x.A,.int .i64 x.B,.slice a0 (List.length x.Map) n0]/\H=List.flatten [H0]
 mT:=λx cs H=> ∃(a0:Option Addr) (n0:Nat),(aT (Fl.int .u8) x.Map a0 H/\List.length x.Map<=n0)/\cs=[.int .i64 x.Kind,.int .i64 x.A,.int .i64 x.B,.slice a0 (List.length x.Map) n0]
 len:=by
  rintro x cs H ⟨a0,n0,H0,s0,rfl,rfl⟩
  rfl
 plain:=by
  rintro x cs H ⟨a0,n0,H0,s0,rfl,rfl⟩ v hv;simp only[List.mem_cons,List.not_mem_nil,or_false] at hv;rcases hv with rfl |rfl |rfl |rfl<;>rfl
 r:=by
  rintro x cs H ⟨a0,n0,H0,s0,rfl,rfl⟩;exact⟨a0,n0,⟨s0.r.mono (λc hc=>gO (HL:=[H0]) (j:=0) rfl hc),s0.bY⟩,rfl⟩
 mono:=by
  rintro x cs H H' ⟨a0,n0,⟨r0,c0⟩,rfl⟩ hs;exact⟨a0,n0,⟨r0.mono hs,c0⟩,rfl⟩
 pos:=by decide
structure aL where
 W:Int
 H:Int
 C:(List Int)
instance :Inhabited aL:=⟨⟨default,default,default⟩⟩
structure bp where
 key:(Int×Int)
 cF:Int
 aZ:Int
instance :Inhabited bp:=⟨⟨default,default,default⟩⟩
def kt:Fl bp:=⟨4,λx=>[.int .i64 x.key.1,.int .i64 x.key.2,.int .i64 x.cF,.int .i64 x.aZ],λ_=>rfl,λ_ v h=>by
 simp only[List.mem_cons,List.not_mem_nil,or_false] at h;rcases h with rfl |rfl |rfl |rfl<;>rfl,Nat.le_of_ble_eq_true rfl⟩
structure fS where
 k:Int
 ak:(List bp)
 fE:(List ((Int×Int)×Int))
 cz:Int
 dg:Int
instance :Inhabited fS:=⟨⟨default,default,default,default,default⟩⟩
structure a_ where
 Cell:Int
 cI:Int
 Key:Int
instance :Inhabited a_:=⟨⟨default,default,default⟩⟩
def cE:Fl a_:=⟨3,λx=>[.int .i64 x.Cell,.int .i64 x.cI,.int .i64 x.Key],λ_=>rfl,λ_ v h=>by
 simp only[List.mem_cons,List.not_mem_nil,or_false] at h;rcases h with rfl |rfl |rfl<;>rfl,Nat.le_of_ble_eq_true rfl⟩
structure fZ where
 fe:(List Int)
 cy:(List Int)
instance :Inhabited fZ:=⟨⟨default,default⟩⟩
structure qe where
 version:Int
 tn:(List a_)
 field:fZ
instance :Inhabited qe:=⟨⟨default,default,default⟩⟩
structure fP where
 bn:Int
 bB:Int
 bz:Int
 bx:Int
 bE:Int
 bC:Int
instance :Inhabited fP:=⟨⟨default,default,default,default,default,default⟩⟩
structure jl where
 keys:fS
 fields:(List qe)
 count:fP
instance :Inhabited jl:=⟨⟨default,default,default⟩⟩
def Eu:Kd qe where
 size:=4
 own:=λx cs H=> ∃(a0:Option Addr) (n0:Nat) (H0:Hp) (a1:Option Addr) (n1:Nat) (H1:Hp) (a2:Option Addr) (n2:Nat) (H2:Hp),aj cE 285 x.tn a0 n0 H0/\aj (Fl.int .i64) 3 x.field.fe a1 n1 H1/\aj (Fl.int .i64) 3 x.field.cy a2 n2 H2/\cs=[.int .i64 x.version,.slice a0 (List.length x.tn) n0,.slice a1 (List.length x.field.fe) n1,.slice a2 (List.length x.field.cy) n2]/\H=List.flatten [H0,H1,H2]
 mT:=λx cs H=> ∃(a0:Option Addr) (n0:Nat) (a1:Option Addr) (n1:Nat) (a2:Option Addr) (n2:Nat),(aT cE x.tn a0 H/\List.length x.tn<=n0)/\(aT (Fl.int .i64) x.field.fe a1 H/\List.length x.field.fe<=n1)/\(aT (Fl.int .i64) x.field.cy a2 H/\List.length x.field.cy<=n2)/\cs=[.int .i64 x.version,.slice a0 (List.length x.tn) n0,.slice a1 (List.length x.field.fe) n1,.slice a2 (List.length x.field.cy) n2]
 len:=by
  rintro x cs H ⟨a0,n0,H0,a1,n1,H1,a2,n2,H2,s0,s1,s2,rfl,rfl⟩
  rfl
 plain:=by
  rintro x cs H ⟨a0,n0,H0,a1,n1,H1,a2,n2,H2,s0,s1,s2,rfl,rfl⟩ v hv;simp only[List.mem_cons,List.not_mem_nil,or_false] at hv;rcases hv with rfl |rfl |rfl |rfl<;>rfl
 r:=by
  rintro x cs H ⟨a0,n0,H0,a1,n1,H1,a2,n2,H2,s0,s1,s2,rfl,rfl⟩;exact⟨a0,n0,a1,n1,a2,n2,⟨s0.r.mono (λc hc=>gO (HL:=[H0,H1,H2]) (j:=0) rfl hc),s0.bY⟩,⟨s1.r.mono (λc hc=>gO (HL:=[H0,H1,H2]) (j:=1) rfl hc),s1.bY⟩,⟨s2.r.mono (λc hc=>gO (HL:=[H0,H1,H2]) (j:=2) rfl hc),s2.bY⟩,rfl⟩
 mono:=by
  rintro x cs H H' ⟨a0,n0,a1,n1,a2,n2,⟨r0,c0⟩,⟨r1,c1⟩,⟨r2,c2⟩,rfl⟩ hs;exact⟨a0,n0,a1,n1,a2,n2,⟨r0.mono hs,c0⟩,⟨r1.mono hs,c1⟩,⟨r2.mono hs,c2⟩,rfl⟩
 pos:=by decide
structure bA where
 m:aL
 bL:Int
 pK:(List Int)
instance :Inhabited bA:=⟨⟨default,default,default⟩⟩
structure pw where
 version:Int
 nodes:(List Int)
 aR:(List Int)
instance :Inhabited pw:=⟨⟨default,default,default⟩⟩
structure dC where
 parts:(List pw)
 clean:Int
 count:Int
instance :Inhabited dC:=⟨⟨default,default,default⟩⟩
structure g_ where
 goal:Int
 bL:Int
 aR:(List Int)
instance :Inhabited g_:=⟨⟨default,default,default⟩⟩
structure j6 where
 kept:(Option g_)
 count:Int
instance :Inhabited j6:=⟨⟨default,default⟩⟩
structure dM where
 aB:bA
 eD:dC
 iT:j6
instance :Inhabited dM:=⟨⟨default,default,default⟩⟩
structure b_ where
 core:(Option dM)
 fx:jl
 aV:fP
instance :Inhabited b_:=⟨⟨default,default,default⟩⟩
def OU:Kd pw where
 size:=3
 own:=λx cs H=> ∃(a0:Option Addr) (n0:Nat) (H0:Hp) (a1:Option Addr) (n1:Nat) (H1:Hp),aj (Fl.int .i64) 3 x.nodes a0 n0 H0/\aj (Fl.int .i32) 21 x.aR a1 n1 H1/\cs=[.int .i64 x.version,.slice a0 (List.length x.nodes) n0,.slice a1 (List.length x.aR) n1]/\H=List.flatten [H0,H1]
 mT:=λx cs H=> ∃(a0:Option Addr) (n0:Nat) (a1:Option Addr) (n1:Nat),(aT (Fl.int .i64) x.nodes a0 H/\List.length x.nodes<=n0)/\(aT (Fl.int .i32) x.aR a1 H/\List.length x.aR<=n1)/\cs=[.int .i64 x.version,.slice a0 (List.length x.nodes) n0,.slice a1 (List.length x.aR) n1]
 len:=by
  rintro x cs H ⟨a0,n0,H0,a1,n1,H1,s0,s1,rfl,rfl⟩
  rfl
 plain:=by
  rintro x cs H ⟨a0,n0,H0,a1,n1,H1,s0,s1,rfl,rfl⟩ v hv;simp only[List.mem_cons,List.not_mem_nil,or_false] at hv;rcases hv with rfl |rfl |rfl<;>rfl
 r:=by
  rintro x cs H ⟨a0,n0,H0,a1,n1,H1,s0,s1,rfl,rfl⟩;exact⟨a0,n0,a1,n1,⟨s0.r.mono (λc hc=>gO (HL:=[H0,H1]) (j:=0) rfl hc),s0.bY⟩,⟨s1.r.mono (λc hc=>gO (HL:=[H0,H1]) (j:=1) rfl hc),s1.bY⟩,rfl⟩
 mono:=by
  rintro x cs H H' ⟨a0,n0,a1,n1,⟨r0,c0⟩,⟨r1,c1⟩,rfl⟩ hs;exact⟨a0,n0,a1,n1,⟨r0.mono hs,c0⟩,⟨r1.mono hs,c1⟩,rfl⟩
 pos:=by decide
structure aF where
 Id:Int
 Cell:Int
 Goal:Int
instance :Inhabited aF:=⟨⟨default,default,default⟩⟩
def lI:Fl aF:=⟨3,λx=>[.int .i64 x.Id,.int .i64 x.Cell,.int .i64 x.Goal],λ_=>rfl,λ_ v h=>by
 simp only[List.mem_cons,List.not_mem_nil,or_false] at h;rcases h with rfl |rfl |rfl<;>rfl,Nat.le_of_ble_eq_true rfl⟩
structure eY where
 most:Int
 next:Int
 live:(List (Int×aF))
 order:(List Int)
instance :Inhabited eY:=⟨⟨default,default,default,default⟩⟩
structure fy where
 words:(List Int)
 count:Int
instance :Inhabited fy:=⟨⟨default,default⟩⟩
structure eo where
 w:Int
 h:Int
 most:Int
 cR:eY
 floor:fy
instance :Inhabited eo:=⟨⟨default,default,default,default,default⟩⟩
structure bI where
 most:Int
 nav:b_
 fb:(Option eo)
instance :Inhabited bI:=⟨⟨default,default,default⟩⟩
structure fg where
 Id:Int
 To:Int
instance :Inhabited fg:=⟨⟨default,default⟩⟩
def jv:Fl fg:=⟨2,λx=>[.int .i64 x.Id,.int .i64 x.To],λ_=>rfl,λ_ v h=>by
 simp only[List.mem_cons,List.not_mem_nil,or_false] at h;rcases h with rfl |rfl<;>rfl,Nat.le_of_ble_eq_true rfl⟩
structure iq where
 Code:Int
 D:Int
 cy:Int
 Id:Int
 ff:(List fg)
 hZ:(List Int)
 Stats:fP
instance :Inhabited iq:=⟨⟨default,default,default,default,default,default,default⟩⟩
structure AR where
 a:Int
 b:Int
 load:Bool
instance :Inhabited AR:=⟨⟨default,default,default⟩⟩
structure eQ where
 b:(List Int)
 ba:Int
instance :Inhabited eQ:=⟨⟨default,default⟩⟩
structure jM where
 items:(List Int)
 gone:Int
instance :Inhabited jM:=⟨⟨default,default⟩⟩
def Wx:Kd jM where
 size:=2
 own:=λx cs H=> ∃(a0:Option Addr) (n0:Nat) (H0:Hp),aj (Fl.int .i64) 3 x.items a0 n0 H0/\cs=[.slice a0 (List.length x.items) n0,.int .i64 x.gone]/\H=List.flatten [H0]
 mT:=λx cs H=> ∃(a0:Option Addr) (n0:Nat),(aT (Fl.int .i64) x.items a0 H/\List.length x.items<=n0)/\cs=[.slice a0 (List.length x.items) n0,.int .i64 x.gone]
 len:=by
  rintro x cs H ⟨a0,n0,H0,s0,rfl,rfl⟩
  rfl
 plain:=by
  rintro x cs H ⟨a0,n0,H0,s0,rfl,rfl⟩ v hv;simp only[List.mem_cons,List.not_mem_nil,or_false] at hv;rcases hv with rfl |rfl<;>rfl
 r:=by
  rintro x cs H ⟨a0,n0,H0,s0,rfl,rfl⟩;exact⟨a0,n0,⟨s0.r.mono (λc hc=>gO (HL:=[H0]) (j:=0) rfl hc),s0.bY⟩,rfl⟩
 mono:=by
  rintro x cs H H' ⟨a0,n0,⟨r0,c0⟩,rfl⟩ hs;exact⟨a0,n0,⟨r0.mono hs,c0⟩,rfl⟩
 pos:=by decide
structure eF where
 ba:Int
 len:Int
 buckets:(List jM)
instance :Inhabited eF:=⟨⟨default,default,default⟩⟩
def EK:List Int:=[0,1,2,2,3,3,3,3,4,4,4,4,4,4,4,4,5,5,5,5,5,5,5,5,5,5,5,5,5,5,5,5,6,6,6,6,6,6,6,6,6,6,6,6,6,6,6,6,6,6,6,6,6,6,6,6,6,6,6,6,6,6,6,6,7,7,7,7,7,7,7,7,7,7,7,7,7,7,7,7,7,7,7,7,7,7,7,7,7,7,7,7,7,7,7,7,7,7,7,7,7,7,7,7,7,7,7,7,7,7,7,7,7,7,7,7,7,7,7,7,7,7,7,7,7,7,7,7,8,8,8,8,8,8,8,8,8,8,8,8,8,8,8,8,8,8,8,8,8,8,8,8,8,8,8,8,8,8,8,8,8,8,8,8,8,8,8,8,8,8,8,8,8,8,8,8,8,8,8,8,8,8,8,8,8,8,8,8,8,8,8,8,8,8,8,8,8,8,8,8,8,8,8,8,8,8,8,8,8,8,8,8,8,8,8,8,8,8,8,8,8,8,8,8,8,8,8,8,8,8,8,8,8,8,8,8,8,8,8,8,8,8,8,8,8,8,8,8,8,8,8,8,8,8,8,8]
structure db where
 t:aL
 wait:eF
 todo:(List a_)
 aR:(List Int)
instance :Inhabited db:=⟨⟨default,default,default,default⟩⟩
structure dI where
 key:Int
 item:Int
instance :Inhabited dI:=⟨⟨default,default⟩⟩
def fB:Fl dI:=⟨2,λx=>[.int .i64 x.key,.int .i64 x.item],λ_=>rfl,λ_ v h=>by
 simp only[List.mem_cons,List.not_mem_nil,or_false] at h;rcases h with rfl |rfl<;>rfl,Nat.le_of_ble_eq_true rfl⟩
structure eO where
 l:(List dI)
instance :Inhabited eO:=⟨⟨default⟩⟩
structure dZ where
 To:Int
 kI:Int
instance :Inhabited dZ:=⟨⟨default,default⟩⟩
def pr:Fl dZ:=⟨2,λx=>[.int .i64 x.To,.int .i64 x.kI],λ_=>rfl,λ_ v h=>by
 simp only[List.mem_cons,List.not_mem_nil,or_false] at h;rcases h with rfl |rfl<;>rfl,Nat.le_of_ble_eq_true rfl⟩
structure Da where
 t:aL
 l:(List a_)
 aR:(List Int)
instance :Inhabited Da:=⟨⟨default,default,default⟩⟩
structure cj where
 Goal:Int
 eU:Int
 cT:(List Int)
instance :Inhabited cj:=⟨⟨default,default,default⟩⟩
def pC:Kd cj where
 size:=3
 own:=λx cs H=> ∃(a0:Option Addr) (n0:Nat) (H0:Hp),aj (Fl.int .i64) 3 x.cT a0 n0 H0/\cs=[.int .i64 x.Goal,.int .i64 x.eU,.slice a0 (List.length x.cT) n0]/\H=List.flatten [H0]
 mT:=λx cs H=> ∃(a0:Option Addr) (n0:Nat),(aT (Fl.int .i64) x.cT a0 H/\List.length x.cT<=n0)/\cs=[.int .i64 x.Goal,.int .i64 x.eU,.slice a0 (List.length x.cT) n0]
 len:=by
  rintro x cs H ⟨a0,n0,H0,s0,rfl,rfl⟩
  rfl
 plain:=by
  rintro x cs H ⟨a0,n0,H0,s0,rfl,rfl⟩ v hv;simp only[List.mem_cons,List.not_mem_nil,or_false] at hv;rcases hv with rfl |rfl |rfl<;>rfl
 r:=by
  rintro x cs H ⟨a0,n0,H0,s0,rfl,rfl⟩;exact⟨a0,n0,⟨s0.r.mono (λc hc=>gO (HL:=[H0]) (j:=0) rfl hc),s0.bY⟩,rfl⟩
 mono:=by
  rintro x cs H H' ⟨a0,n0,⟨r0,c0⟩,rfl⟩ hs;exact⟨a0,n0,⟨r0.mono hs,c0⟩,rfl⟩
 pos:=by decide
structure mu where
 w:Int
 h:Int
 jQ:(List (Int×Bool))
 ku:(List fg)
 gone:(List Int)
instance :Inhabited mu:=⟨⟨default,default,default,default,default⟩⟩
def fp (n : String) (t o b : Nat) : Field := ⟨n, t, o, false, "", "", b⟩
def bZ (n : String) (t o b : Nat) (p : String) : Field := ⟨n, t, o, false, "", p, b⟩
theorem aK {P : Program} {f : FuncId} {fn : Func} (h : P.funcs[f]? = some fn) (a : (fn.name == "runtime.NumGoroutine") = false := by kernel_rfl) (b : fn.body.isNone = false := by kernel_rfl) : Has P f := ⟨⟨fn, h, a, b⟩⟩
theorem all_map {α β:Type} {g:Nat->β} {k:α->β}: ∀{l:List (Nat×α)},l.map (λe=>g e.1)=l.map (λe=>k e.2)->EV (λt d=>g t=k d) l
 |[],_=>trivial
 |_::_,h=>⟨(List.cons.inj h).1,all_map (List.cons.inj h).2⟩
def Ty.om {P:Program} (us:List (Nat×TypeDesc)) (is:List (Nat×(Nat×Nat×Value))) (hu:us.map (λe=>P.underlying e.1)=us.map (λe=>some e.2):=by kernel_rfl)
 (hi:is.map (λe=>(P.info? e.1).map λi=>(i.size,i.bytes,i.zero))=is.map (λe=>some (e.2.1,e.2.2.1,some e.2.2.2)):=by kernel_rfl):Ty P:=
 Ty.of us is (all_map hu) (all_map (k:=λd:Nat×Nat×Value=>some (d.1,d.2.1,some d.2.2)) hi)
theorem u3:Tryz.prog.underlying 3=some (.int .i64):=ay
theorem lM:Tryz.prog.underlying 76=some (.array 2 3):=ay
noncomputable def T : Ty Tryz.prog := Ty.om [(2, .int .i64), (3, .int .i64), (4, .bool), (5, .int .u8), (9, .string), (21, .int .i32), (22, .slice 5), (23, .slice 97), (24, .slice 3), (25, .pointer 103), (30, .struct #[(fp "W" 3 0 0), (fp "H" 3 1 8), (fp "C" 22 2 16)]), (40, .slice 55), (43, .slice 4), (44, .int .u64), (46, .struct #[(fp "Rebuilds" 44 0 0), (fp "Searches" 44 1 8), (fp "Builds" 44 2 16), (fp "Hits" 44 3 24), (fp "Stale" 44 4 32), (fp "Evicts" 44 5 40)]), (48, .slice 67), (50, .slice 94), (52, .struct #[(fp "Code" 3 0 0), (fp "D" 3 1 8), (fp "Dir" 3 2 16), (fp "Id" 3 3 24), (fp "Moves" 50 4 32), (fp "Gone" 24 5 56), (fp "Stats" 46 6 80)]), (55, .struct #[(fp "Kind" 3 0 0), (fp "A" 3 1 8), (fp "B" 3 2 16), (fp "Map" 22 3 24)]), (59, .slice 120), (63, .slice 65), (65, .int .u32), (67, .struct #[(fp "Id" 3 0 0), (fp "Cell" 3 1 8), (fp "Goal" 3 2 16)]), (76, .array 2 3), (79, .struct #[(fp "Dist" 24 0 0), (fp "Dir" 24 1 24)]), (88, .pointer 135), (94, .struct #[(fp "Id" 3 0 0), (fp "To" 3 1 8)]), (97, .struct #[(fp "Kind" 3 0 0), (fp "A" 3 1 8), (fp "B" 3 2 16)]), (101, .pointer 146), (103, .struct #[(bZ "most" 3 0 0 "herdsman/svc"), (bZ "nav" 88 1 8 "herdsman/svc"), (bZ "crowd" 101 2 16 "herdsman/svc")]), (106, .interface #[("Error", 415)]), (110, .pointer 112), (112, .struct #[(bZ "kind" 3 0 0 "herdsman/svc"), (bZ "of" 106 1 8 "herdsman/svc")]), (117, .map 3 59), (118, .map 76 3), (120, .struct #[(fp "Goal" 3 0 0), (fp "Sector" 3 1 8), (fp "Ids" 24 2 16)]), (122, .map 3 4), (123, .array 6 44), (130, .pointer 167), (131, .pointer 213), (132, .pointer 233), (133, .pointer 173), (135, .struct #[(bZ "grid" 130 0 0 "herdsman/nav"), (bZ "mesh" 131 1 8 "herdsman/nav"), (bZ "finder" 132 2 16 "herdsman/nav"), (bZ "shelf" 133 3 24 "herdsman/nav"), (bZ "past" 46 4 32 "herdsman/nav")]), (136, .int .u64), (139, .struct #[(fp "W" 3 0 0), (fp "H" 3 1 8), (fp "C" 22 2 16)]), (143, .pointer 178), (144, .pointer 221), (146, .struct #[(bZ "w" 3 0 0 "herdsman/crowd"), (bZ "h" 3 1 8 "herdsman/crowd"), (bZ "most" 3 2 16 "herdsman/crowd"), (bZ "units" 143 3 24 "herdsman/crowd"), (bZ "floor" 144 4 32 "herdsman/crowd")]), (148, .int .i64), (160, .pointer 148), (165, .slice 2), (167, .struct #[(bZ "m" 30 0 0 "herdsman/grid"), (bZ "epoch" 2 3 40 "herdsman/grid"), (bZ "versions" 165 4 48 "herdsman/grid")]), (169, .pointer 238), (171, .slice 291), (173, .struct #[(bZ "keys" 169 0 0 "herdsman/shelf"), (bZ "fields" 171 1 8 "herdsman/shelf"), (bZ "count" 46 2 32 "herdsman/shelf")]), (176, .map 3 67), (178, .struct #[(bZ "most" 3 0 0 "herdsman/units"), (bZ "next" 3 1 8 "herdsman/units"), (bZ "live" 176 2 16 "herdsman/units"), (bZ "order" 24 3 24 "herdsman/units")]), (180, .struct #[(bZ "a" 3 0 0 "herdsman/op"), (bZ "b" 3 1 8 "herdsman/op"), (bZ "load" 4 2 16 "herdsman/op")]), (211, .slice 217), (213, .struct #[(bZ "g" 130 0 0 "herdsman/mesh"), (bZ "parts" 211 1 8 "herdsman/mesh"), (bZ "clean" 2 2 32 "herdsman/mesh"), (bZ "count" 44 3 40 "herdsman/mesh")]), (215, .slice 21), (217, .struct #[(bZ "version" 2 0 0 "herdsman/mesh"), (bZ "nodes" 24 1 8 "herdsman/mesh"), (bZ "dist" 215 2 32 "herdsman/mesh")]), (221, .struct #[(bZ "words" 63 0 0 "herdsman/floor"), (bZ "count" 3 1 24 "herdsman/floor")]), (222, .pointer 224), (224, .struct #[(bZ "goal" 3 0 0 "herdsman/nav"), (bZ "of" 106 1 8 "herdsman/nav")]), (227, .slice 285), (229, .pointer 235), (233, .struct #[(bZ "m" 131 0 0 "herdsman/route"), (bZ "g" 130 1 8 "herdsman/route"), (bZ "kept" 229 2 16 "herdsman/route"), (bZ "count" 44 3 24 "herdsman/route")]), (235, .struct #[(bZ "goal" 3 0 0 "herdsman/route"), (bZ "epoch" 2 1 8 "herdsman/route"), (bZ "dist" 215 2 16 "herdsman/route")]), (236, .slice 278), (238, .struct #[(bZ "k" 3 0 0 "herdsman/lru"), (bZ "seats" 236 1 8 "herdsman/lru"), (bZ "slots" 118 2 32 "herdsman/lru"), (bZ "newest" 3 3 40 "herdsman/lru"), (bZ "oldest" 3 4 48 "herdsman/lru")]), (243, .int .i64), (244, .pointer 243), (258, .map 3 3), (278, .struct #[(bZ "key" 76 0 0 "herdsman/lru"), (bZ "newer" 3 2 16 "herdsman/lru"), (bZ "old" 3 3 24 "herdsman/lru")]), (280, .slice 283), (283, .struct #[(fp "To" 3 0 0), (fp "Cost" 3 1 8)]), (285, .struct #[(fp "Cell" 3 0 0), (fp "Side" 3 1 8), (fp "Key" 3 2 16)]), (291, .struct #[(bZ "version" 2 0 0 "herdsman/shelf"), (bZ "seeds" 227 1 8 "herdsman/shelf"), (bZ "field" 79 2 32 "herdsman/shelf")]), (301, .pointer 303), (303, .struct #[(bZ "sector" 3 0 0 "herdsman/atlas"), (bZ "of" 106 1 8 "herdsman/atlas")]), (309, .struct #[(bZ "w" 3 0 0 "herdsman/march"), (bZ "h" 3 1 8 "herdsman/march"), (bZ "stand" 122 2 16 "herdsman/march"), (bZ "moves" 50 3 24 "herdsman/march"), (bZ "gone" 24 4 48 "herdsman/march")]), (314, .array 4 3), (320, .pointer 357), (337, .struct #[(bZ "t" 139 0 0 "herdsman/steer"), (bZ "l" 227 3 40 "herdsman/steer"), (bZ "dist" 24 4 64 "herdsman/steer")]), (340, .struct #[(bZ "b" 22 0 0 "herdsman/pack"), (bZ "at" 3 1 24 "herdsman/pack")]), (343, .pointer 346), (344, .pointer 343), (346, .struct #[(bZ "at" 3 0 0 "herdsman/pack"), (bZ "code" 3 1 8 "herdsman/pack"), (bZ "of" 106 2 16 "herdsman/pack")]), (355, .slice 359), (357, .struct #[(bZ "l" 355 0 0 "herdsman/heap")]), (359, .struct #[(bZ "key" 3 0 0 "herdsman/heap"), (bZ "item" 3 1 8 "herdsman/heap")]), (360, .pointer 217), (365, .pointer 396), (369, .struct #[(bZ "t" 139 0 0 "herdsman/sweep"), (bZ "wait" 365 3 40 "herdsman/sweep"), (bZ "todo" 227 4 48 "herdsman/sweep"), (bZ "dist" 24 5 72 "herdsman/sweep")]), (393, .struct #[(bZ "items" 24 0 0 "herdsman/ring"), (bZ "gone" 3 1 24 "herdsman/ring")]), (394, .array 256 393), (396, .struct #[(bZ "at" 3 0 0 "herdsman/ring"), (bZ "len" 3 1 8 "herdsman/ring"), (bZ "buckets" 394 2 16 "herdsman/ring")])]
 [(2,(1,8,(ii 0))),(3,(1,8,(ii 0))),(4,(1,1,(bb false))),(5,(1,1,(.int .u8 0))),(21,(1,4,(.int .i32 0))),(22,(1,24,nl)),(24,(1,24,nl)),(30,(3,40,(.agg #[(ii 0),(ii 0),nl]))),(44,(1,8,(uu 0))),(46,(6,48,(.agg #[(uu 0),(uu 0),(uu 0),(uu 0),(uu 0),(uu 0)]))),(50,(1,24,nl)),(52,(12,128,(.agg #[(ii 0),(ii 0),(ii 0),(ii 0),nl,nl,(uu 0),(uu 0),(uu 0),(uu 0),(uu 0),(uu 0)]))),(55,(4,48,(.agg #[(ii 0),(ii 0),(ii 0),nl]))),(59,(1,24,nl)),(63,(1,24,nl)),(65,(1,4,(.int .u32 0))),(67,(3,24,(.agg #[(ii 0),(ii 0),(ii 0)]))),(76,(2,16,(.agg #[(ii 0),(ii 0)]))),(79,(2,48,(.agg #[nl,nl]))),(88,(1,8,(.pointer none))),(94,(2,16,(.agg #[(ii 0),(ii 0)]))),(97,(3,24,(.agg #[(ii 0),(ii 0),(ii 0)]))),(101,(1,8,(.pointer none))),(103,(3,24,(.agg #[(ii 0),(.pointer none),(.pointer none)]))),(106,(1,16,.nilIface)),(112,(2,24,(.agg #[(ii 0),.nilIface]))),(118,(1,8,(.map none))),(120,(3,40,(.agg #[(ii 0),(ii 0),nl]))),(122,(1,8,(.map none))),(123,(6,48,(.agg #[(uu 0),(uu 0),(uu 0),(uu 0),(uu 0),(uu 0)]))),(130,(1,8,(.pointer none))),(131,(1,8,(.pointer none))),(132,(1,8,(.pointer none))),(133,(1,8,(.pointer none))),(135,(10,80,(.agg #[(.pointer none),(.pointer none),(.pointer none),(.pointer none),(uu 0),(uu 0),(uu 0),(uu 0),(uu 0),(uu 0)]))),(139,(3,40,(.agg #[(ii 0),(ii 0),nl]))),(143,(1,8,(.pointer none))),(144,(1,8,(.pointer none))),(146,(5,40,(.agg #[(ii 0),(ii 0),(ii 0),(.pointer none),(.pointer none)]))),(148,(1,8,(ii 0))),(165,(1,24,nl)),(167,(5,72,(.agg #[(ii 0),(ii 0),nl,(ii 0),nl]))),(169,(1,8,(.pointer none))),(171,(1,24,nl)),(173,(8,80,(.agg #[(.pointer none),nl,(uu 0),(uu 0),(uu 0),(uu 0),(uu 0),(uu 0)]))),(176,(1,8,(.map none))),(178,(4,48,(.agg #[(ii 0),(ii 0),(.map none),nl]))),(180,(3,24,(.agg #[(ii 0),(ii 0),(bb false)]))),(211,(1,24,nl)),(213,(4,48,(.agg #[(.pointer none),nl,(ii 0),(uu 0)]))),(215,(1,24,nl)),(217,(3,56,(.agg #[(ii 0),nl,nl]))),(221,(2,32,(.agg #[nl,(ii 0)]))),(224,(2,24,(.agg #[(ii 0),.nilIface]))),(227,(1,24,nl)),(229,(1,8,(.pointer none))),(233,(4,32,(.agg #[(.pointer none),(.pointer none),(.pointer none),(uu 0)]))),(235,(3,40,(.agg #[(ii 0),(ii 0),nl]))),(236,(1,24,nl)),(238,(5,56,(.agg #[(ii 0),nl,(.map none),(ii 0),(ii 0)]))),(243,(1,8,(ii 0))),(278,(4,32,(.agg #[(ii 0),(ii 0),(ii 0),(ii 0)]))),(283,(2,16,(.agg #[(ii 0),(ii 0)]))),(285,(3,24,(.agg #[(ii 0),(ii 0),(ii 0)]))),(291,(4,80,(.agg #[(ii 0),nl,nl,nl]))),(303,(2,24,(.agg #[(ii 0),.nilIface]))),(309,(5,72,(.agg #[(ii 0),(ii 0),(.map none),nl,nl]))),(314,(4,32,(.agg #[(ii 0),(ii 0),(ii 0),(ii 0)]))),(337,(5,88,(.agg #[(ii 0),(ii 0),nl,nl,nl]))),(340,(2,32,(.agg #[nl,(ii 0)]))),(343,(1,8,(.pointer none))),(346,(3,32,(.agg #[(ii 0),(ii 0),.nilIface]))),(355,(1,24,nl)),(357,(1,24,(.agg #[nl]))),(359,(2,16,(.agg #[(ii 0),(ii 0)]))),(365,(1,8,(.pointer none))),(369,(6,96,(.agg #[(ii 0),(ii 0),nl,(.pointer none),nl,nl]))),(393,(2,32,(.agg #[nl,(ii 0)]))),(394,(512,8192,(.agg #[nl,(ii 0),nl,(ii 0),nl,(ii 0),nl,(ii 0),nl,(ii 0),nl,(ii 0),nl,(ii 0),nl,(ii 0),nl,(ii 0),nl,(ii 0),nl,(ii 0),nl,(ii 0),nl,(ii 0),nl,(ii 0),nl,(ii 0),nl,(ii 0),nl,(ii 0),nl,(ii 0),nl,(ii 0),nl,(ii 0),nl,(ii 0),nl,(ii 0),nl,(ii 0),nl,(ii 0),nl,(ii 0),nl,(ii 0),nl,(ii 0),nl,(ii 0),nl,(ii 0),nl,(ii 0),nl,(ii 0),nl,(ii 0),nl,(ii 0),nl,(ii 0),nl,(ii 0),nl,(ii 0),nl,(ii 0),nl,(ii 0),nl,(ii 0),nl,(ii 0),nl,(ii 0),nl,(ii 0),nl,(ii 0),nl,(ii 0),nl,(ii 0),nl,(ii 0),nl,(ii 0),nl,(ii 0),nl,(ii 0),nl,(ii 0),nl,(ii 0),nl,(ii 0),nl,(ii 0),nl,(ii 0),nl,(ii 0),nl,(ii 0),nl,(ii 0),nl,(ii 0),nl,(ii 0),nl,(ii 0),nl,(ii 0),nl,(ii 0),nl,(ii 0),nl,(ii 0),nl,(ii 0),nl,(ii 0),nl,(ii 0),nl,(ii 0),nl,(ii 0),nl,(ii 0),nl,(ii 0),nl,(ii 0),nl,(ii 0),nl,(ii 0),nl,(ii 0),nl,(ii 0),nl,(ii 0),nl,(ii 0),nl,(ii 0),nl,(ii 0),nl,(ii 0),nl,(ii 0),nl,(ii 0),nl,(ii 0),nl,(ii 0),nl,(ii 0),nl,(ii 0),nl,(ii 0),nl,(ii 0),nl,(ii 0),nl,(ii 0),nl,(ii 0),nl,(ii 0),nl,(ii 0),nl,(ii 0),nl,(ii 0),nl,(ii 0),nl,(ii 0),nl,(ii 0),nl,(ii 0),nl,(ii 0),nl,(ii 0),nl,(ii 0),nl,(ii 0),nl,(ii 0),nl,(ii 0),nl,(ii 0),nl,(ii 0),nl,(ii 0),nl,(ii 0),nl,(ii 0),nl,(ii 0),nl,(ii 0),nl,(ii 0),nl,(ii 0),nl,(ii 0),nl,(ii 0),nl,(ii 0),nl,(ii 0),nl,(ii 0),nl,(ii 0),nl,(ii 0),nl,(ii 0),nl,(ii 0),nl,(ii 0),nl,(ii 0),nl,(ii 0),nl,(ii 0),nl,(ii 0),nl,(ii 0),nl,(ii 0),nl,(ii 0),nl,(ii 0),nl,(ii 0),nl,(ii 0),nl,(ii 0),nl,(ii 0),nl,(ii 0),nl,(ii 0),nl,(ii 0),nl,(ii 0),nl,(ii 0),nl,(ii 0),nl,(ii 0),nl,(ii 0),nl,(ii 0),nl,(ii 0),nl,(ii 0),nl,(ii 0),nl,(ii 0),nl,(ii 0),nl,(ii 0),nl,(ii 0),nl,(ii 0),nl,(ii 0),nl,(ii 0),nl,(ii 0),nl,(ii 0),nl,(ii 0),nl,(ii 0),nl,(ii 0),nl,(ii 0),nl,(ii 0),nl,(ii 0),nl,(ii 0),nl,(ii 0),nl,(ii 0),nl,(ii 0),nl,(ii 0),nl,(ii 0),nl,(ii 0),nl,(ii 0),nl,(ii 0),nl,(ii 0),nl,(ii 0),nl,(ii 0),nl,(ii 0),nl,(ii 0),nl,(ii 0),nl,(ii 0),nl,(ii 0),nl,(ii 0),nl,(ii 0),nl,(ii 0),nl,(ii 0),nl,(ii 0),nl,(ii 0),nl,(ii 0),nl,(ii 0),nl,(ii 0),nl,(ii 0),nl,(ii 0),nl,(ii 0),nl,(ii 0),nl,(ii 0),nl,(ii 0),nl,(ii 0),nl,(ii 0),nl,(ii 0),nl,(ii 0),nl,(ii 0),nl,(ii 0),nl,(ii 0),nl,(ii 0),nl,(ii 0),nl,(ii 0),nl,(ii 0),nl,(ii 0),nl,(ii 0),nl,(ii 0),nl,(ii 0),nl,(ii 0),nl,(ii 0),nl,(ii 0),nl,(ii 0),nl,(ii 0),nl,(ii 0),nl,(ii 0),nl,(ii 0),nl,(ii 0),nl,(ii 0),nl,(ii 0),nl,(ii 0),nl,(ii 0),nl,(ii 0),nl,(ii 0),nl,(ii 0),nl,(ii 0),nl,(ii 0),nl,(ii 0),nl,(ii 0),nl,(ii 0),nl,(ii 0),nl,(ii 0),nl,(ii 0),nl,(ii 0),nl,(ii 0),nl,(ii 0),nl,(ii 0),nl,(ii 0),nl,(ii 0),nl,(ii 0),nl,(ii 0),nl,(ii 0),nl,(ii 0),nl,(ii 0),nl,(ii 0),nl,(ii 0),nl,(ii 0),nl,(ii 0),nl,(ii 0),nl,(ii 0),nl,(ii 0),nl,(ii 0),nl,(ii 0),nl,(ii 0)]))),(396,(514,8208,(.agg #[(ii 0),(ii 0),nl,(ii 0),nl,(ii 0),nl,(ii 0),nl,(ii 0),nl,(ii 0),nl,(ii 0),nl,(ii 0),nl,(ii 0),nl,(ii 0),nl,(ii 0),nl,(ii 0),nl,(ii 0),nl,(ii 0),nl,(ii 0),nl,(ii 0),nl,(ii 0),nl,(ii 0),nl,(ii 0),nl,(ii 0),nl,(ii 0),nl,(ii 0),nl,(ii 0),nl,(ii 0),nl,(ii 0),nl,(ii 0),nl,(ii 0),nl,(ii 0),nl,(ii 0),nl,(ii 0),nl,(ii 0),nl,(ii 0),nl,(ii 0),nl,(ii 0),nl,(ii 0),nl,(ii 0),nl,(ii 0),nl,(ii 0),nl,(ii 0),nl,(ii 0),nl,(ii 0),nl,(ii 0),nl,(ii 0),nl,(ii 0),nl,(ii 0),nl,(ii 0),nl,(ii 0),nl,(ii 0),nl,(ii 0),nl,(ii 0),nl,(ii 0),nl,(ii 0),nl,(ii 0),nl,(ii 0),nl,(ii 0),nl,(ii 0),nl,(ii 0),nl,(ii 0),nl,(ii 0),nl,(ii 0),nl,(ii 0),nl,(ii 0),nl,(ii 0),nl,(ii 0),nl,(ii 0),nl,(ii 0),nl,(ii 0),nl,(ii 0),nl,(ii 0),nl,(ii 0),nl,(ii 0),nl,(ii 0),nl,(ii 0),nl,(ii 0),nl,(ii 0),nl,(ii 0),nl,(ii 0),nl,(ii 0),nl,(ii 0),nl,(ii 0),nl,(ii 0),nl,(ii 0),nl,(ii 0),nl,(ii 0),nl,(ii 0),nl,(ii 0),nl,(ii 0),nl,(ii 0),nl,(ii 0),nl,(ii 0),nl,(ii 0),nl,(ii 0),nl,(ii 0),nl,(ii 0),nl,(ii 0),nl,(ii 0),nl,(ii 0),nl,(ii 0),nl,(ii 0),nl,(ii 0),nl,(ii 0),nl,(ii 0),nl,(ii 0),nl,(ii 0),nl,(ii 0),nl,(ii 0),nl,(ii 0),nl,(ii 0),nl,(ii 0),nl,(ii 0),nl,(ii 0),nl,(ii 0),nl,(ii 0),nl,(ii 0),nl,(ii 0),nl,(ii 0),nl,(ii 0),nl,(ii 0),nl,(ii 0),nl,(ii 0),nl,(ii 0),nl,(ii 0),nl,(ii 0),nl,(ii 0),nl,(ii 0),nl,(ii 0),nl,(ii 0),nl,(ii 0),nl,(ii 0),nl,(ii 0),nl,(ii 0),nl,(ii 0),nl,(ii 0),nl,(ii 0),nl,(ii 0),nl,(ii 0),nl,(ii 0),nl,(ii 0),nl,(ii 0),nl,(ii 0),nl,(ii 0),nl,(ii 0),nl,(ii 0),nl,(ii 0),nl,(ii 0),nl,(ii 0),nl,(ii 0),nl,(ii 0),nl,(ii 0),nl,(ii 0),nl,(ii 0),nl,(ii 0),nl,(ii 0),nl,(ii 0),nl,(ii 0),nl,(ii 0),nl,(ii 0),nl,(ii 0),nl,(ii 0),nl,(ii 0),nl,(ii 0),nl,(ii 0),nl,(ii 0),nl,(ii 0),nl,(ii 0),nl,(ii 0),nl,(ii 0),nl,(ii 0),nl,(ii 0),nl,(ii 0),nl,(ii 0),nl,(ii 0),nl,(ii 0),nl,(ii 0),nl,(ii 0),nl,(ii 0),nl,(ii 0),nl,(ii 0),nl,(ii 0),nl,(ii 0),nl,(ii 0),nl,(ii 0),nl,(ii 0),nl,(ii 0),nl,(ii 0),nl,(ii 0),nl,(ii 0),nl,(ii 0),nl,(ii 0),nl,(ii 0),nl,(ii 0),nl,(ii 0),nl,(ii 0),nl,(ii 0),nl,(ii 0),nl,(ii 0),nl,(ii 0),nl,(ii 0),nl,(ii 0),nl,(ii 0),nl,(ii 0),nl,(ii 0),nl,(ii 0),nl,(ii 0),nl,(ii 0),nl,(ii 0),nl,(ii 0),nl,(ii 0),nl,(ii 0),nl,(ii 0),nl,(ii 0),nl,(ii 0),nl,(ii 0),nl,(ii 0),nl,(ii 0),nl,(ii 0),nl,(ii 0),nl,(ii 0),nl,(ii 0),nl,(ii 0),nl,(ii 0),nl,(ii 0),nl,(ii 0),nl,(ii 0),nl,(ii 0),nl,(ii 0),nl,(ii 0),nl,(ii 0),nl,(ii 0),nl,(ii 0),nl,(ii 0),nl,(ii 0),nl,(ii 0),nl,(ii 0),nl,(ii 0),nl,(ii 0),nl,(ii 0),nl,(ii 0),nl,(ii 0),nl,(ii 0),nl,(ii 0),nl,(ii 0),nl,(ii 0),nl,(ii 0),nl,(ii 0),nl,(ii 0),nl,(ii 0),nl,(ii 0),nl,(ii 0),nl,(ii 0),nl,(ii 0),nl,(ii 0),nl,(ii 0),nl,(ii 0),nl,(ii 0),nl,(ii 0),nl,(ii 0)])))]
abbrev aJ:=Has Tryz.prog
theorem lZ:aJ 12:=aK Tryz.func12
theorem acs:aJ 13:=aK Tryz.func13
theorem acu:aJ 14:=aK Tryz.func14
theorem acM:aJ 18:=aK Tryz.func18
theorem acY:aJ 20:=aK Tryz.func20
theorem Tj:aJ 21:=aK Tryz.func21
theorem Ni:aJ 22:=aK Tryz.func22
theorem Tq:aJ 23:=aK Tryz.func23
theorem F5:aJ 24:=aK Tryz.func24
theorem Nq:aJ 25:=aK Tryz.func25
theorem qA:aJ 26:=aK Tryz.func26
theorem adB:aJ 27:=aK Tryz.func27
theorem adG:aJ 28:=aK Tryz.func28
theorem adL:aJ 29:=aK Tryz.func29
theorem Nv:aJ 42:=aK Tryz.func42
theorem adV:aJ 43:=aK Tryz.func43
theorem Nw:aJ 45:=aK Tryz.func45
theorem adW:aJ 46:=aK Tryz.func46
theorem JJ:aJ 47:=aK Tryz.func47
theorem TC:aJ 48:=aK Tryz.func48
theorem Nx:aJ 49:=aK Tryz.func49
theorem adX:aJ 50:=aK Tryz.func50
theorem adY:aJ 51:=aK Tryz.func51
theorem adZ:aJ 52:=aK Tryz.func52
theorem TD:aJ 53:=aK Tryz.func53
theorem JK:aJ 54:=aK Tryz.func54
theorem ad0:aJ 55:=aK Tryz.func55
theorem ad1:aJ 56:=aK Tryz.func56
theorem Ny:aJ 57:=aK Tryz.func57
theorem Nz:aJ 58:=aK Tryz.func58
theorem F7:aJ 59:=aK Tryz.func59
theorem ad2:aJ 60:=aK Tryz.func60
theorem TE:aJ 61:=aK Tryz.func61
theorem pY:aJ 62:=aK Tryz.func62
theorem ad3:aJ 67:=aK Tryz.func67
theorem TF:aJ 68:=aK Tryz.func68
theorem TI:aJ 70:=aK Tryz.func70
theorem ad4:aJ 71:=aK Tryz.func71
theorem TJ:aJ 74:=aK Tryz.func74
theorem ad5:aJ 75:=aK Tryz.func75
theorem ad6:aJ 76:=aK Tryz.func76
theorem ad7:aJ 77:=aK Tryz.func77
theorem NA:aJ 78:=aK Tryz.func78
theorem TK:aJ 79:=aK Tryz.func79
theorem ad8:aJ 80:=aK Tryz.func80
theorem ad9:aJ 81:=aK Tryz.func81
theorem ad_:aJ 82:=aK Tryz.func82
theorem ad':aJ 83:=aK Tryz.func83
theorem aea:aJ 84:=aK Tryz.func84
theorem aeb:aJ 85:=aK Tryz.func85
theorem aec:aJ 86:=aK Tryz.func86
theorem aed:aJ 87:=aK Tryz.func87
theorem vu:aJ 88:=aK Tryz.func88
theorem TL:aJ 89:=aK Tryz.func89
theorem TM:aJ 90:=aK Tryz.func90
theorem aee:aJ 91:=aK Tryz.func91
theorem aef:aJ 92:=aK Tryz.func92
theorem JL:aJ 93:=aK Tryz.func93
theorem JM:aJ 94:=aK Tryz.func94
theorem NB:aJ 95:=aK Tryz.func95
theorem B8:aJ 96:=aK Tryz.func96
theorem NC:aJ 97:=aK Tryz.func97
theorem SN:aJ 100:=aK Tryz.func100
theorem SP:aJ 101:=aK Tryz.func101
theorem M8:aJ 103:=aK Tryz.func103
theorem ace:aJ 104:=aK Tryz.func104
theorem acf:aJ 105:=aK Tryz.func105
theorem JA:aJ 106:=aK Tryz.func106
theorem SQ:aJ 107:=aK Tryz.func107
theorem SR:aJ 108:=aK Tryz.func108
theorem SS:aJ 109:=aK Tryz.func109
theorem acg:aJ 110:=aK Tryz.func110
theorem M9:aJ 111:=aK Tryz.func111
theorem M_:aJ 112:=aK Tryz.func112
theorem JB:aJ 113:=aK Tryz.func113
theorem ach:aJ 114:=aK Tryz.func114
theorem aci:aJ 115:=aK Tryz.func115
theorem acj:aJ 116:=aK Tryz.func116
theorem Na:aJ 117:=aK Tryz.func117
theorem SU:aJ 118:=aK Tryz.func118
theorem ack:aJ 119:=aK Tryz.func119
theorem acm:aJ 120:=aK Tryz.func120
theorem acn:aJ 121:=aK Tryz.func121
theorem B5:aJ 122:=aK Tryz.func122
theorem Nb:aJ 123:=aK Tryz.func123
theorem SV:aJ 124:=aK Tryz.func124
theorem Nc:aJ 125:=aK Tryz.func125
theorem aco:aJ 126:=aK Tryz.func126
theorem acp:aJ 127:=aK Tryz.func127
theorem acq:aJ 128:=aK Tryz.func128
theorem acr:aJ 129:=aK Tryz.func129
theorem B6:aJ 136:=aK Tryz.func136
theorem B7:aJ 137:=aK Tryz.func137
theorem SX:aJ 140:=aK Tryz.func140
theorem vt:aJ 141:=aK Tryz.func141
theorem SY:aJ 142:=aK Tryz.func142
theorem acv:aJ 143:=aK Tryz.func143
theorem DU:aJ 144:=aK Tryz.func144
theorem SZ:aJ 145:=aK Tryz.func145
theorem acw:aJ 146:=aK Tryz.func146
theorem acx:aJ 147:=aK Tryz.func147
theorem S0:aJ 148:=aK Tryz.func148
theorem S3:aJ 149:=aK Tryz.func149
theorem S4:aJ 150:=aK Tryz.func150
theorem S5:aJ 151:=aK Tryz.func151
theorem acy:aJ 152:=aK Tryz.func152
theorem S6:aJ 153:=aK Tryz.func153
theorem F1:aJ 154:=aK Tryz.func154
theorem acz:aJ 155:=aK Tryz.func155
theorem acA:aJ 156:=aK Tryz.func156
theorem S7:aJ 157:=aK Tryz.func157
theorem Nd:aJ 158:=aK Tryz.func158
theorem acB:aJ 159:=aK Tryz.func159
theorem S8:aJ 160:=aK Tryz.func160
theorem S9:aJ 161:=aK Tryz.func161
theorem acC:aJ 162:=aK Tryz.func162
theorem acD:aJ 163:=aK Tryz.func163
theorem S_:aJ 164:=aK Tryz.func164
theorem F2:aJ 165:=aK Tryz.func165
theorem acE:aJ 166:=aK Tryz.func166
theorem acF:aJ 167:=aK Tryz.func167
theorem acG:aJ 168:=aK Tryz.func168
theorem uc:aJ 171:=aK Tryz.func171
theorem F3:aJ 172:=aK Tryz.func172
theorem JC:aJ 173:=aK Tryz.func173
theorem acH:aJ 174:=aK Tryz.func174
theorem JD:aJ 175:=aK Tryz.func175
theorem acI:aJ 176:=aK Tryz.func176
theorem acJ:aJ 177:=aK Tryz.func177
theorem acK:aJ 178:=aK Tryz.func178
theorem acL:aJ 179:=aK Tryz.func179
theorem F4:aJ 180:=aK Tryz.func180
theorem acN:aJ 181:=aK Tryz.func181
theorem acO:aJ 182:=aK Tryz.func182
theorem Ta:aJ 183:=aK Tryz.func183
theorem acP:aJ 184:=aK Tryz.func184
theorem acQ:aJ 185:=aK Tryz.func185
theorem JE:aJ 186:=aK Tryz.func186
theorem Tb:aJ 187:=aK Tryz.func187
theorem acR:aJ 188:=aK Tryz.func188
theorem Tc:aJ 189:=aK Tryz.func189
theorem Nf:aJ 190:=aK Tryz.func190
theorem acS:aJ 191:=aK Tryz.func191
theorem acT:aJ 192:=aK Tryz.func192
theorem acU:aJ 193:=aK Tryz.func193
theorem Ng:aJ 194:=aK Tryz.func194
theorem Td:aJ 195:=aK Tryz.func195
theorem Te:aJ 196:=aK Tryz.func196
theorem acV:aJ 197:=aK Tryz.func197
theorem acW:aJ 198:=aK Tryz.func198
theorem acX:aJ 199:=aK Tryz.func199
theorem acZ:aJ 200:=aK Tryz.func200
theorem Tf:aJ 201:=aK Tryz.func201
theorem Tg:aJ 202:=aK Tryz.func202
theorem ac0:aJ 203:=aK Tryz.func203
theorem Nh:aJ 204:=aK Tryz.func204
theorem Th:aJ 205:=aK Tryz.func205
theorem Ti:aJ 206:=aK Tryz.func206
theorem Ao:aJ 207:=aK Tryz.func207
theorem ac1:aJ 208:=aK Tryz.func208
theorem ac2:aJ 210:=aK Tryz.func210
theorem ac3:aJ 211:=aK Tryz.func211
theorem ac4:aJ 212:=aK Tryz.func212
theorem Tk:aJ 213:=aK Tryz.func213
theorem ac5:aJ 214:=aK Tryz.func214
theorem ac6:aJ 215:=aK Tryz.func215
theorem Tl:aJ 216:=aK Tryz.func216
theorem JF:aJ 217:=aK Tryz.func217
theorem JG:aJ 218:=aK Tryz.func218
theorem ac7:aJ 219:=aK Tryz.func219
theorem JH:aJ 220:=aK Tryz.func220
theorem ac8:aJ 221:=aK Tryz.func221
theorem ac9:aJ 222:=aK Tryz.func222
theorem ac_:aJ 223:=aK Tryz.func223
theorem Tm:aJ 224:=aK Tryz.func224
theorem ac':aJ 225:=aK Tryz.func225
theorem ada:aJ 226:=aK Tryz.func226
theorem Nj:aJ 227:=aK Tryz.func227
theorem Tn:aJ 228:=aK Tryz.func228
theorem adb:aJ 229:=aK Tryz.func229
theorem ade:aJ 230:=aK Tryz.func230
theorem adf:aJ 231:=aK Tryz.func231
theorem adg:aJ 232:=aK Tryz.func232
theorem adh:aJ 233:=aK Tryz.func233
theorem adi:aJ 234:=aK Tryz.func234
theorem adj:aJ 235:=aK Tryz.func235
theorem adk:aJ 236:=aK Tryz.func236
theorem Nl:aJ 237:=aK Tryz.func237
theorem adl:aJ 238:=aK Tryz.func238
theorem Nn:aJ 239:=aK Tryz.func239
theorem adm:aJ 240:=aK Tryz.func240
theorem adn:aJ 241:=aK Tryz.func241
theorem ado:aJ 242:=aK Tryz.func242
theorem Tr:aJ 243:=aK Tryz.func243
theorem adp:aJ 244:=aK Tryz.func244
theorem Ts:aJ 245:=aK Tryz.func245
theorem adq:aJ 246:=aK Tryz.func246
theorem Tt:aJ 247:=aK Tryz.func247
theorem Np:aJ 248:=aK Tryz.func248
theorem adr:aJ 249:=aK Tryz.func249
theorem Tu:aJ 250:=aK Tryz.func250
theorem ads:aJ 251:=aK Tryz.func251
theorem adt:aJ 252:=aK Tryz.func252
theorem adu:aJ 253:=aK Tryz.func253
theorem adv:aJ 254:=aK Tryz.func254
theorem adw:aJ 255:=aK Tryz.func255
theorem adx:aJ 264:=aK Tryz.func264
theorem JI:aJ 265:=aK Tryz.func265
theorem ady:aJ 266:=aK Tryz.func266
theorem adz:aJ 267:=aK Tryz.func267
theorem adA:aJ 269:=aK Tryz.func269
theorem Tv:aJ 270:=aK Tryz.func270
theorem adC:aJ 271:=aK Tryz.func271
theorem adD:aJ 272:=aK Tryz.func272
theorem Nr:aJ 273:=aK Tryz.func273
theorem Ns:aJ 274:=aK Tryz.func274
theorem adE:aJ 275:=aK Tryz.func275
theorem adF:aJ 276:=aK Tryz.func276
theorem xg:aJ 277:=aK Tryz.func277
theorem Nt:aJ 278:=aK Tryz.func278
theorem Tw:aJ 279:=aK Tryz.func279
theorem Tx:aJ 280:=aK Tryz.func280
theorem adH:aJ 281:=aK Tryz.func281
theorem adI:aJ 282:=aK Tryz.func282
theorem adJ:aJ 288:=aK Tryz.func288
theorem adK:aJ 289:=aK Tryz.func289
theorem adM:aJ 290:=aK Tryz.func290
theorem Tz:aJ 291:=aK Tryz.func291
theorem TA:aJ 292:=aK Tryz.func292
theorem Nu:aJ 293:=aK Tryz.func293
theorem F6:aJ 294:=aK Tryz.func294
theorem adN:aJ 295:=aK Tryz.func295
theorem adO:aJ 297:=aK Tryz.func297
theorem adP:aJ 299:=aK Tryz.func299
theorem adQ:aJ 300:=aK Tryz.func300
theorem TB:aJ 301:=aK Tryz.func301
theorem adR:aJ 302:=aK Tryz.func302
theorem adS:aJ 303:=aK Tryz.func303
theorem adT:aJ 304:=aK Tryz.func304
theorem adU:aJ 305:=aK Tryz.func305
theorem mix:Tryz.prog.follows .mixedOrders=true:=ay
theorem W_:Tryz.prog.stoodInHeld 46=false/\Tryz.prog.eqGuardType Tryz.prog.depth 46=false:=⟨by kernel_rfl,by kernel_rfl⟩
theorem aiE:Tryz.prog.stoodInHeld 94=false/\Tryz.prog.eqGuardType Tryz.prog.depth 94=false:=⟨by kernel_rfl,by kernel_rfl⟩
theorem Pu:Tryz.prog.stoodInHeld 285=false/\Tryz.prog.eqGuardType Tryz.prog.depth 285=false:=⟨by kernel_rfl,by kernel_rfl⟩
@[reducible] def X1 (o : Option fS) (v : Value) (G : List Hp) : Prop := match o with
 |none=>v= .pointer none/\G=[]
 |some x=> ∃(b:Nat) (a0:Option Addr) (n0:Nat) (H0:Hp) (a1:Nat) (H1:Hp),aj kt 278 x.ak a0 n0 H0/\cM (Ky.pair T .i64 rfl rfl rfl lM u3) (λx:Int=>Value.int .i64 x) x.fE a1 H1/\v= .pointer (some ⟨b,0,none⟩)/\G=[(cl b 238 [(ii x.k),(ll a0 x.ak n0),(.map (some a1)),(ii x.cz),(ii x.dg)]),H0,H1]
def sb (x:jl) (b:Nat) (H:Hp):Prop:= ∃(b0:Nat) (a1:Option Addr) (n1:Nat) (H1:Hp) (a2:Nat) (H2:Hp) (a3:Option Addr) (n3:Nat) (H3:Hp),aj kt 278 x.keys.ak a1 n1 H1/\cM (Ky.pair T .i64 rfl rfl rfl lM u3) (λx:Int=>Value.int .i64 x) x.keys.fE a2 H2/\gz Eu 291 x.fields a3 n3 H3/\H=List.flatten [(cl b 173 [(pp b0),(ll a3 x.fields n3),(uu x.count.bn),(uu x.count.bB),(uu x.count.bz),(uu x.count.bx),(uu x.count.bE),(uu x.count.bC)]),(cl b0 238 [(ii x.keys.k),(ll a1 x.keys.ak n1),(.map (some a2)),(ii x.keys.cz),(ii x.keys.dg)]),H1,H2,H3]
@[reducible] def X8 (o : Option jl) (v : Value) (G : List Hp) : Prop := match o with
 |none=>v= .pointer none/\G=[]
 |some x=> ∃(b:Nat) (H:Hp),sb x b H/\v= .pointer (some ⟨b,0,none⟩)/\G=[H]
def iC (x:bA) (b:Nat) (H:Hp):Prop:= ∃(a0:Option Addr) (n0:Nat) (H0:Hp) (a1:Option Addr) (n1:Nat) (H1:Hp),aj (Fl.int .u8) 5 x.m.C a0 n0 H0/\aj (Fl.int .i64) 2 x.pK a1 n1 H1/\H=List.flatten [(cl b 167 [(ii x.m.W),(ii x.m.H),(ll a0 x.m.C n0),(ii x.bL),(ll a1 x.pK n1)]),H0,H1]
def mD (x:dC) (b:Nat) (l0:Nat) (H:Hp):Prop:= ∃(a0:Option Addr) (n0:Nat) (H0:Hp),gz OU 217 x.parts a0 n0 H0/\H=List.flatten [(cl b 213 [(pp l0),(ll a0 x.parts n0),(ii x.clean),(uu x.count)]),H0]
def LA (o:Option g_) (l0:Nat) (l1:Nat) (v0:Value) (H:Hp):Prop:=match o with
 |none=>v0= .pointer none/\H=[]
 |some y=> ∃(b0:Nat) (a1:Option Addr) (n1:Nat) (H1:Hp),aj (Fl.int .i32) 21 y.aR a1 n1 H1/\v0=(pp b0)/\H=List.flatten [(cl b0 235 [(ii y.goal),(ii y.bL),(ll a1 y.aR n1)]),H1]
def tM (x:j6) (b:Nat) (l0:Nat) (l1:Nat) (H:Hp):Prop:= ∃(v0:Value) (Ho:Hp),LA x.kept l0 l1 v0 Ho/\H=List.flatten [(cl b 233 [(pp l0),(pp l1),v0,(uu x.count)]),Ho]
def uS (o:Option dM) (v0 v1 v2:Value) (H:Hp):Prop:=match o with
 |none=>v0= .pointer none/\v1= .pointer none/\v2= .pointer none/\H=[]
 |some y=> ∃(b0:Nat) (H0:Hp) (b1:Nat) (H1:Hp) (b2:Nat) (H2:Hp),iC y.aB b0 H0/\mD y.eD b1 b0 H1/\tM y.iT b2 b1 b0 H2/\v0=(pp b0)/\v1=(pp b1)/\v2=(pp b2)/\H=List.flatten [H0,H1,H2]
def gy (x:b_) (b:Nat) (H:Hp):Prop:= ∃(b0:Nat) (H0:Hp) (v0 v1 v2:Value) (Ho:Hp),sb x.fx b0 H0/\uS x.core v0 v1 v2 Ho/\H=List.flatten [(cl b 135 [v0,v1,v2,(pp b0),(uu x.aV.bn),(uu x.aV.bB),(uu x.aV.bz),(uu x.aV.bx),(uu x.aV.bE),(uu x.aV.bC)]),H0,Ho]
@[reducible] def X4 (o : Option b_) (v : Value) (G : List Hp) : Prop := match o with
 |none=>v= .pointer none/\G=[]
 |some x=> ∃(b:Nat) (H:Hp),gy x b H/\v= .pointer (some ⟨b,0,none⟩)/\G=[H]
def lQ (x:eo) (b:Nat) (H:Hp):Prop:= ∃(b0:Nat) (a1:Nat) (H1:Hp) (a2:Option Addr) (n2:Nat) (H2:Hp) (b3:Nat) (a4:Option Addr) (n4:Nat) (H4:Hp),cM (Ky.int .i64 u3) (λx:aF=>Value.agg #[.int .i64 x.Id,.int .i64 x.Cell,.int .i64 x.Goal]) x.cR.live a1 H1/\aj (Fl.int .i64) 3 x.cR.order a2 n2 H2/\aj (Fl.int .u32) 65 x.floor.words a4 n4 H4/\H=List.flatten [(cl b 146 [(ii x.w),(ii x.h),(ii x.most),(pp b0),(pp b3)]),(cl b0 178 [(ii x.cR.most),(ii x.cR.next),(.map (some a1)),(ll a2 x.cR.order n2)]),H1,H2,(cl b3 221 [(ll a4 x.floor.words n4),(ii x.floor.count)]),H4]
def Bx (o:Option eo) (v0:Value) (H:Hp):Prop:=match o with
 |none=>v0= .pointer none/\H=[]
 |some y=> ∃(b0:Nat) (H0:Hp),lQ y b0 H0/\v0=(pp b0)/\H=List.flatten [H0]
def fO (x:bI) (b:Nat) (H:Hp):Prop:= ∃(b0:Nat) (H0:Hp) (v0:Value) (Ho:Hp),gy x.nav b0 H0/\Bx x.fb v0 Ho/\H=List.flatten [(cl b 103 [(ii x.most),(pp b0),v0]),H0,Ho]
@[reducible] def X9 (o : Option bI) (v : Value) (G : List Hp) : Prop := match o with
 |none=>v= .pointer none/\G=[]
 |some x=> ∃(b:Nat) (H:Hp),fO x b H/\v= .pointer (some ⟨b,0,none⟩)/\G=[H]
@[reducible] def XY (o : Option bA) (v : Value) (G : List Hp) : Prop := match o with
 |none=>v= .pointer none/\G=[]
 |some x=> ∃(b:Nat) (H:Hp),iC x b H/\v= .pointer (some ⟨b,0,none⟩)/\G=[H]
@[reducible] def X3 (w0 : Nat) (o : Option dC) (v : Value) (G : List Hp) : Prop := match o with
 |none=>v= .pointer none/\G=[]
 |some x=> ∃(b:Nat) (H:Hp),mD x b w0 H/\v= .pointer (some ⟨b,0,none⟩)/\G=[H]
@[reducible] def X6 (w0 : Nat) (w1 : Nat) (o : Option j6) (v : Value) (G : List Hp) : Prop := match o with
 |none=>v= .pointer none/\G=[]
 |some x=> ∃(b:Nat) (H:Hp),tM x b w0 w1 H/\v= .pointer (some ⟨b,0,none⟩)/\G=[H]
@[reducible] def X_ (o : Option eY) (v : Value) (G : List Hp) : Prop := match o with
 |none=>v= .pointer none/\G=[]
 |some x=> ∃(b:Nat) (a0:Nat) (H0:Hp) (a1:Option Addr) (n1:Nat) (H1:Hp),cM (Ky.int .i64 u3) (λx:aF=>Value.agg #[.int .i64 x.Id,.int .i64 x.Cell,.int .i64 x.Goal]) x.live a0 H0/\aj (Fl.int .i64) 3 x.order a1 n1 H1/\v= .pointer (some ⟨b,0,none⟩)/\G=[(cl b 178 [(ii x.most),(ii x.next),(.map (some a0)),(ll a1 x.order n1)]),H0,H1]
@[reducible] def XX (o : Option fy) (v : Value) (G : List Hp) : Prop := match o with
 |none=>v= .pointer none/\G=[]
 |some x=> ∃(b:Nat) (a0:Option Addr) (n0:Nat) (H0:Hp),aj (Fl.int .u32) 65 x.words a0 n0 H0/\v= .pointer (some ⟨b,0,none⟩)/\G=[(cl b 221 [(ll a0 x.words n0),(ii x.count)]),H0]
@[reducible] def XW (o : Option eo) (v : Value) (G : List Hp) : Prop := match o with
 |none=>v= .pointer none/\G=[]
 |some x=> ∃(b:Nat) (H:Hp),lQ x b H/\v= .pointer (some ⟨b,0,none⟩)/\G=[H]
def kc (x:eF) (b:Nat) (H:Hp):Prop:=ym Wx [.int .i64 x.ba,.int .i64 x.len] x.buckets b 396 H/\List.length x.buckets=256
@[reducible] def X5 (o : Option eF) (v : Value) (G : List Hp) : Prop := match o with
 |none=>v= .pointer none/\G=[]
 |some x=> ∃(b:Nat) (H:Hp),kc x b H/\v= .pointer (some ⟨b,0,none⟩)/\G=[H]
@[reducible] def XZ (o : Option eO) (v : Value) (G : List Hp) : Prop := match o with
 |none=>v= .pointer none/\G=[]
 |some x=> ∃(b:Nat) (a0:Option Addr) (n0:Nat) (H0:Hp),aj fB 359 x.l a0 n0 H0/\v= .pointer (some ⟨b,0,none⟩)/\G=[(cl b 357 [(ll a0 x.l n0)]),H0]
@[reducible] def X7 (o : Option g_) (v : Value) (G : List Hp) : Prop := match o with
 |none=>v= .pointer none/\G=[]
 |some x=> ∃(b:Nat) (a0:Option Addr) (n0:Nat) (H0:Hp),aj (Fl.int .i32) 21 x.aR a0 n0 H0/\v= .pointer (some ⟨b,0,none⟩)/\G=[(cl b 235 [(ii x.goal),(ii x.bL),(ll a0 x.aR n0)]),H0]
def X' (r:Option g_) (x:j6) (b:Nat) (l0:Nat) (l1:Nat) (u:Value) (H:Hp):Prop:=match r with
 |none=>u= .pointer none/\tM x b l0 l1 H
 |some y=>x.kept=some y/\ ∃(b0:Nat) (a1:Option Addr) (n1:Nat) (H1:Hp),aj (Fl.int .i32) 21 y.aR a1 n1 H1/\u= .pointer (some ⟨b0,0,none⟩)/\H=List.flatten [(cl b 233 [(pp l0),(pp l1),(pp b0),(uu x.count)]),List.flatten [(cl b0 235 [(ii y.goal),(ii y.bL),(ll a1 y.aR n1)]),H1]]
abbrev QR:=CR Tryz.prog
abbrev QU:=CU Tryz.prog
end Go.Proofs.YthodkonhneebbaaGreatDoor
