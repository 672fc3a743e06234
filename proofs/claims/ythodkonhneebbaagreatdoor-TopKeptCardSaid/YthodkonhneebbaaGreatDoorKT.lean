/- Part of the proof. No condition. -/
import Derived.Test.YthodkonhneebbaaGreatDoorProg
import Derived.KernelRfl
import Derived.Test.YthodkonhneebbaaGreatDoorKErrs
import Derived.Test.YthodkonhneebbaaGreatDoorKHz
namespace Go.Proofs.YthodkonhneebbaaGreatDoor
open Go.Hx
set_option maxRecDepth 100000
set_option linter.unusedSimpArgs false
set_option linter.unusedVariables false
structure sG where
 Kind:Int
 A:Int
 B:Int
instance:Inhabited sG:=⟨⟨default,default,default⟩⟩
def Gs:Fl sG:=⟨3,λx=>[.int .i64 x.Kind,.int .i64 x.A,.int .i64 x.B],λ_=>rfl,λ_ v h=>by
 simp only[List.mem_cons,List.not_mem_nil,or_false] at h;rcases h with rfl |rfl |rfl<;>rfl,Nat.le_of_ble_eq_true rfl⟩
structure dn where
 Kind:Int
 A:Int
 B:Int
 Map:(List Int)
instance:Inhabited dn:=⟨⟨default,default,default,default⟩⟩
def GZ:Kd dn where
 size:=4
 own:=λx cs H=> ∃(a0:Option Addr) (n0:Nat) (H0:Hp),aj (Fl.int .u8) 5 x.Map a0 n0 H0/\cs=[.int .i64 x.Kind,.int .i64 x.A,.int .i64 x.B,.slice a0 (List.length x.Map) n0]/\H=List.flatten [H0]
 mH:=λx cs H=> ∃(a0:Option Addr) (n0:Nat),(aS (Fl.int .u8) x.Map a0 H/\List.length x.Map<=n0)/\cs=[.int .i64 x.Kind,.int .i64 x.A,.int .i64 x.B,.slice a0 (List.length x.Map) n0]
 len:=by
  rintro x cs H ⟨a0,n0,H0,s0,rfl,rfl⟩
  rfl
 plain:=by
  rintro x cs H ⟨a0,n0,H0,s0,rfl,rfl⟩ v hv;simp only[List.mem_cons,List.not_mem_nil,or_false] at hv;rcases hv with rfl |rfl |rfl |rfl<;>rfl
 r:=by
  rintro x cs H ⟨a0,n0,H0,s0,rfl,rfl⟩;exact⟨a0,n0,⟨s0.r.mono (λc hc=>gN (HL:=[H0]) (j:=0) rfl hc),s0.bW⟩,rfl⟩
 mono:=by
  rintro x cs H H' ⟨a0,n0,⟨r0,c0⟩,rfl⟩ hs;exact⟨a0,n0,⟨r0.mono hs,c0⟩,rfl⟩
 pos:=by decide
structure aJ where
 W:Int
 H:Int
 C:(List Int)
instance:Inhabited aJ:=⟨⟨default,default,default⟩⟩
structure bm where
 key:(Int×Int)
 cJ:Int
 aY:Int
instance:Inhabited bm:=⟨⟨default,default,default⟩⟩
def jI:Fl bm:=⟨4,λx=>[.int .i64 x.key.1,.int .i64 x.key.2,.int .i64 x.cJ,.int .i64 x.aY],λ_=>rfl,λ_ v h=>by
 simp only[List.mem_cons,List.not_mem_nil,or_false] at h;rcases h with rfl |rfl |rfl |rfl<;>rfl,Nat.le_of_ble_eq_true rfl⟩
structure fg where
 k:Int
 ak:(List bm)
 ft:(List ((Int×Int)×Int))
 cy:Int
 cZ:Int
instance:Inhabited fg:=⟨⟨default,default,default,default,default⟩⟩
structure aZ where
 Cell:Int
 cM:Int
 Key:Int
instance:Inhabited aZ:=⟨⟨default,default,default⟩⟩
def cI:Fl aZ:=⟨3,λx=>[.int .i64 x.Cell,.int .i64 x.cM,.int .i64 x.Key],λ_=>rfl,λ_ v h=>by
 simp only[List.mem_cons,List.not_mem_nil,or_false] at h;rcases h with rfl |rfl |rfl<;>rfl,Nat.le_of_ble_eq_true rfl⟩
structure fX where
 fa:(List Int)
 cz:(List Int)
instance:Inhabited fX:=⟨⟨default,default⟩⟩
structure pZ where
 version:Int
 tk:(List aZ)
 field:fX
instance:Inhabited pZ:=⟨⟨default,default,default⟩⟩
structure gv where
 bC:Int
 bD:Int
 bA:Int
 bx:Int
 bM:Int
 bE:Int
instance:Inhabited gv:=⟨⟨default,default,default,default,default,default⟩⟩
structure iU where
 keys:fg
 fields:(List pZ)
 count:gv
instance:Inhabited iU:=⟨⟨default,default,default⟩⟩
def Eg:Kd pZ where
 size:=4
 own:=λx cs H=> ∃(a0:Option Addr) (n0:Nat) (H0:Hp) (a1:Option Addr) (n1:Nat) (H1:Hp) (a2:Option Addr) (n2:Nat) (H2:Hp),aj cI 285 x.tk a0 n0 H0/\aj (Fl.int .i64) 3 x.field.fa a1 n1 H1/\aj (Fl.int .i64) 3 x.field.cz a2 n2 H2/\cs=[.int .i64 x.version,.slice a0 (List.length x.tk) n0,.slice a1 (List.length x.field.fa) n1,.slice a2 (List.length x.field.cz) n2]/\H=List.flatten [H0,H1,H2]
 mH:=λx cs H=> ∃(a0:Option Addr) (n0:Nat) (a1:Option Addr) (n1:Nat) (a2:Option Addr) (n2:Nat),(aS cI x.tk a0 H/\List.length x.tk<=n0)/\(aS (Fl.int .i64) x.field.fa a1 H/\List.length x.field.fa<=n1)/\(aS (Fl.int .i64) x.field.cz a2 H/\List.length x.field.cz<=n2)/\cs=[.int .i64 x.version,.slice a0 (List.length x.tk) n0,.slice a1 (List.length x.field.fa) n1,.slice a2 (List.length x.field.cz) n2]
 len:=by
  rintro x cs H ⟨a0,n0,H0,a1,n1,H1,a2,n2,H2,s0,s1,s2,rfl,rfl⟩
  rfl
 plain:=by
  rintro x cs H ⟨a0,n0,H0,a1,n1,H1,a2,n2,H2,s0,s1,s2,rfl,rfl⟩ v hv;simp only[List.mem_cons,List.not_mem_nil,or_false] at hv;rcases hv with rfl |rfl |rfl |rfl<;>rfl
 r:=by
  rintro x cs H ⟨a0,n0,H0,a1,n1,H1,a2,n2,H2,s0,s1,s2,rfl,rfl⟩;exact⟨a0,n0,a1,n1,a2,n2,⟨s0.r.mono (λc hc=>gN (HL:=[H0,H1,H2]) (j:=0) rfl hc),s0.bW⟩,⟨s1.r.mono (λc hc=>gN (HL:=[H0,H1,H2]) (j:=1) rfl hc),s1.bW⟩,⟨s2.r.mono (λc hc=>gN (HL:=[H0,H1,H2]) (j:=2) rfl hc),s2.bW⟩,rfl⟩
 mono:=by
  rintro x cs H H' ⟨a0,n0,a1,n1,a2,n2,⟨r0,c0⟩,⟨r1,c1⟩,⟨r2,c2⟩,rfl⟩ hs;exact⟨a0,n0,a1,n1,a2,n2,⟨r0.mono hs,c0⟩,⟨r1.mono hs,c1⟩,⟨r2.mono hs,c2⟩,rfl⟩
 pos:=by decide
structure bt where
 m:aJ
 bL:Int
 pz:(List Int)
instance:Inhabited bt:=⟨⟨default,default,default⟩⟩
structure pd where
 version:Int
 nodes:(List Int)
 aQ:(List Int)
instance:Inhabited pd:=⟨⟨default,default,default⟩⟩
structure dz where
 parts:(List pd)
 clean:Int
 count:Int
instance:Inhabited dz:=⟨⟨default,default,default⟩⟩
structure ie where
 goal:Int
 bL:Int
 aQ:(List Int)
instance:Inhabited ie:=⟨⟨default,default,default⟩⟩
structure jN where
 kept:(Option ie)
 count:Int
instance:Inhabited jN:=⟨⟨default,default⟩⟩
structure eI where
 aI:bt
 hZ:dz
 gZ:jN
instance:Inhabited eI:=⟨⟨default,default,default⟩⟩
structure bY where
 core:(Option eI)
 eh:iU
 aU:gv
instance:Inhabited bY:=⟨⟨default,default,default⟩⟩
def Oy:Kd pd where
 size:=3
 own:=λx cs H=> ∃(a0:Option Addr) (n0:Nat) (H0:Hp) (a1:Option Addr) (n1:Nat) (H1:Hp),aj (Fl.int .i64) 3 x.nodes a0 n0 H0/\aj (Fl.int .i32) 21 x.aQ a1 n1 H1/\cs=[.int .i64 x.version,.slice a0 (List.length x.nodes) n0,.slice a1 (List.length x.aQ) n1]/\H=List.flatten [H0,H1]
 mH:=λx cs H=> ∃(a0:Option Addr) (n0:Nat) (a1:Option Addr) (n1:Nat),(aS (Fl.int .i64) x.nodes a0 H/\List.length x.nodes<=n0)/\(aS (Fl.int .i32) x.aQ a1 H/\List.length x.aQ<=n1)/\cs=[.int .i64 x.version,.slice a0 (List.length x.nodes) n0,.slice a1 (List.length x.aQ) n1]
 len:=by
  rintro x cs H ⟨a0,n0,H0,a1,n1,H1,s0,s1,rfl,rfl⟩
  rfl
 plain:=by
  rintro x cs H ⟨a0,n0,H0,a1,n1,H1,s0,s1,rfl,rfl⟩ v hv;simp only[List.mem_cons,List.not_mem_nil,or_false] at hv;rcases hv with rfl |rfl |rfl<;>rfl
 r:=by
  rintro x cs H ⟨a0,n0,H0,a1,n1,H1,s0,s1,rfl,rfl⟩;exact⟨a0,n0,a1,n1,⟨s0.r.mono (λc hc=>gN (HL:=[H0,H1]) (j:=0) rfl hc),s0.bW⟩,⟨s1.r.mono (λc hc=>gN (HL:=[H0,H1]) (j:=1) rfl hc),s1.bW⟩,rfl⟩
 mono:=by
  rintro x cs H H' ⟨a0,n0,a1,n1,⟨r0,c0⟩,⟨r1,c1⟩,rfl⟩ hs;exact⟨a0,n0,a1,n1,⟨r0.mono hs,c0⟩,⟨r1.mono hs,c1⟩,rfl⟩
 pos:=by decide
structure aF where
 Id:Int
 Cell:Int
 Goal:Int
instance:Inhabited aF:=⟨⟨default,default,default⟩⟩
def lD:Fl aF:=⟨3,λx=>[.int .i64 x.Id,.int .i64 x.Cell,.int .i64 x.Goal],λ_=>rfl,λ_ v h=>by
 simp only[List.mem_cons,List.not_mem_nil,or_false] at h;rcases h with rfl |rfl |rfl<;>rfl,Nat.le_of_ble_eq_true rfl⟩
structure eV where
 most:Int
 next:Int
 live:(List (Int×aF))
 order:(List Int)
instance:Inhabited eV:=⟨⟨default,default,default,default⟩⟩
structure fy where
 words:(List Int)
 count:Int
instance:Inhabited fy:=⟨⟨default,default⟩⟩
structure d_ where
 w:Int
 h:Int
 most:Int
 cT:eV
 floor:fy
instance:Inhabited d_:=⟨⟨default,default,default,default,default⟩⟩
structure bJ where
 most:Int
 nav:bY
 eY:(Option d_)
instance:Inhabited bJ:=⟨⟨default,default,default⟩⟩
structure fc where
 Id:Int
 To:Int
instance:Inhabited fc:=⟨⟨default,default⟩⟩
def jy:Fl fc:=⟨2,λx=>[.int .i64 x.Id,.int .i64 x.To],λ_=>rfl,λ_ v h=>by
 simp only[List.mem_cons,List.not_mem_nil,or_false] at h;rcases h with rfl |rfl<;>rfl,Nat.le_of_ble_eq_true rfl⟩
structure iZ where
 Code:Int
 D:Int
 cz:Int
 Id:Int
 fi:(List fc)
 ik:(List Int)
 Stats:gv
instance:Inhabited iZ:=⟨⟨default,default,default,default,default,default,default⟩⟩
structure AD where
 a:Int
 b:Int
 load:Bool
instance:Inhabited AD:=⟨⟨default,default,default⟩⟩
structure eQ where
 b:(List Int)
 a_:Int
instance:Inhabited eQ:=⟨⟨default,default⟩⟩
structure jM where
 items:(List Int)
 gone:Int
instance:Inhabited jM:=⟨⟨default,default⟩⟩
def VS:Kd jM where
 size:=2
 own:=λx cs H=> ∃(a0:Option Addr) (n0:Nat) (H0:Hp),aj (Fl.int .i64) 3 x.items a0 n0 H0/\cs=[.slice a0 (List.length x.items) n0,.int .i64 x.gone]/\H=List.flatten [H0]
 mH:=λx cs H=> ∃(a0:Option Addr) (n0:Nat),(aS (Fl.int .i64) x.items a0 H/\List.length x.items<=n0)/\cs=[.slice a0 (List.length x.items) n0,.int .i64 x.gone]
 len:=by
  rintro x cs H ⟨a0,n0,H0,s0,rfl,rfl⟩
  rfl
 plain:=by
  rintro x cs H ⟨a0,n0,H0,s0,rfl,rfl⟩ v hv;simp only[List.mem_cons,List.not_mem_nil,or_false] at hv;rcases hv with rfl |rfl<;>rfl
 r:=by
  rintro x cs H ⟨a0,n0,H0,s0,rfl,rfl⟩;exact⟨a0,n0,⟨s0.r.mono (λc hc=>gN (HL:=[H0]) (j:=0) rfl hc),s0.bW⟩,rfl⟩
 mono:=by
  rintro x cs H H' ⟨a0,n0,⟨r0,c0⟩,rfl⟩ hs;exact⟨a0,n0,⟨r0.mono hs,c0⟩,rfl⟩
 pos:=by decide
structure eB where
 a_:Int
 len:Int
 buckets:(List jM)
instance:Inhabited eB:=⟨⟨default,default,default⟩⟩
def EA:List Int:=[0,1,2,2,3,3,3,3,4,4,4,4,4,4,4,4,5,5,5,5,5,5,5,5,5,5,5,5,5,5,5,5,6,6,6,6,6,6,6,6,6,6,6,6,6,6,6,6,6,6,6,6,6,6,6,6,6,6,6,6,6,6,6,6,7,7,7,7,7,7,7,7,7,7,7,7,7,7,7,7,7,7,7,7,7,7,7,7,7,7,7,7,7,7,7,7,7,7,7,7,7,7,7,7,7,7,7,7,7,7,7,7,7,7,7,7,7,7,7,7,7,7,7,7,7,7,7,7,8,8,8,8,8,8,8,8,8,8,8,8,8,8,8,8,8,8,8,8,8,8,8,8,8,8,8,8,8,8,8,8,8,8,8,8,8,8,8,8,8,8,8,8,8,8,8,8,8,8,8,8,8,8,8,8,8,8,8,8,8,8,8,8,8,8,8,8,8,8,8,8,8,8,8,8,8,8,8,8,8,8,8,8,8,8,8,8,8,8,8,8,8,8,8,8,8,8,8,8,8,8,8,8,8,8,8,8,8,8,8,8,8,8,8,8,8,8,8,8,8,8,8,8,8,8,8,8]
structure df where
 t:aJ
 wait:eB
 todo:(List aZ)
 aQ:(List Int)
instance:Inhabited df:=⟨⟨default,default,default,default⟩⟩
structure dC where
 key:Int
 item:Int
instance:Inhabited dC:=⟨⟨default,default⟩⟩
def fB:Fl dC:=⟨2,λx=>[.int .i64 x.key,.int .i64 x.item],λ_=>rfl,λ_ v h=>by
 simp only[List.mem_cons,List.not_mem_nil,or_false] at h;rcases h with rfl |rfl<;>rfl,Nat.le_of_ble_eq_true rfl⟩
structure eO where
 l:(List dC)
instance:Inhabited eO:=⟨⟨default⟩⟩
structure dR where
 To:Int
 kE:Int
instance:Inhabited dR:=⟨⟨default,default⟩⟩
def pa:Fl dR:=⟨2,λx=>[.int .i64 x.To,.int .i64 x.kE],λ_=>rfl,λ_ v h=>by
 simp only[List.mem_cons,List.not_mem_nil,or_false] at h;rcases h with rfl |rfl<;>rfl,Nat.le_of_ble_eq_true rfl⟩
structure CW where
 t:aJ
 l:(List aZ)
 aQ:(List Int)
instance:Inhabited CW:=⟨⟨default,default,default⟩⟩
structure cg where
 Goal:Int
 eT:Int
 cW:(List Int)
instance:Inhabited cg:=⟨⟨default,default,default⟩⟩
def pk:Kd cg where
 size:=3
 own:=λx cs H=> ∃(a0:Option Addr) (n0:Nat) (H0:Hp),aj (Fl.int .i64) 3 x.cW a0 n0 H0/\cs=[.int .i64 x.Goal,.int .i64 x.eT,.slice a0 (List.length x.cW) n0]/\H=List.flatten [H0]
 mH:=λx cs H=> ∃(a0:Option Addr) (n0:Nat),(aS (Fl.int .i64) x.cW a0 H/\List.length x.cW<=n0)/\cs=[.int .i64 x.Goal,.int .i64 x.eT,.slice a0 (List.length x.cW) n0]
 len:=by
  rintro x cs H ⟨a0,n0,H0,s0,rfl,rfl⟩
  rfl
 plain:=by
  rintro x cs H ⟨a0,n0,H0,s0,rfl,rfl⟩ v hv;simp only[List.mem_cons,List.not_mem_nil,or_false] at hv;rcases hv with rfl |rfl |rfl<;>rfl
 r:=by
  rintro x cs H ⟨a0,n0,H0,s0,rfl,rfl⟩;exact⟨a0,n0,⟨s0.r.mono (λc hc=>gN (HL:=[H0]) (j:=0) rfl hc),s0.bW⟩,rfl⟩
 mono:=by
  rintro x cs H H' ⟨a0,n0,⟨r0,c0⟩,rfl⟩ hs;exact⟨a0,n0,⟨r0.mono hs,c0⟩,rfl⟩
 pos:=by decide
structure me where
 w:Int
 h:Int
 jQ:(List (Int×Bool))
 kq:(List fc)
 gone:(List Int)
instance:Inhabited me:=⟨⟨default,default,default,default,default⟩⟩
def fk (n : String) (t o b : Nat) : Field := ⟨n, t, o, false, "", "", b⟩
def bX (n : String) (t o b : Nat) (p : String) : Field := ⟨n, t, o, false, "", p, b⟩
theorem aH {P : Program} {f : FuncId} {fn : Func} (h : P.funcs[f]? = some fn) (a : (fn.name == "runtime.NumGoroutine") = false := by kernel_rfl) (b : fn.body.isNone = false := by kernel_rfl) : Has P f := ⟨⟨fn, h, a, b⟩⟩
theorem all_map {α β:Type} {g:Nat->β} {k:α->β}: ∀{l:List (Nat×α)},l.map (λe=>g e.1)=l.map (λe=>k e.2)->EL (λt d=>g t=k d) l
 |[],_=>trivial
 |_::_,h=>⟨(List.cons.inj h).1,all_map (List.cons.inj h).2⟩
def Ty.om {P:Program} (us:List (Nat×TypeDesc)) (is:List (Nat×(Nat×Nat×Value))) (hu:us.map (λe=>P.underlying e.1)=us.map (λe=>some e.2):=by kernel_rfl)
 (hi:is.map (λe=>(P.info? e.1).map λi=>(i.size,i.bytes,i.zero))=is.map (λe=>some (e.2.1,e.2.2.1,some e.2.2.2)):=by kernel_rfl):Ty P:=
 Ty.of us is (all_map hu) (all_map (k:=λd:Nat×Nat×Value=>some (d.1,d.2.1,some d.2.2)) hi)
theorem u3:Tryz.prog.underlying 3=some (.int .i64):=ay
theorem lb:Tryz.prog.underlying 76=some (.array 2 3):=ay
noncomputable def T : Ty Tryz.prog := Ty.om [(2, .int .i64), (3, .int .i64), (4, .bool), (5, .int .u8), (9, .string), (21, .int .i32), (22, .slice 5), (23, .slice 97), (24, .slice 3), (25, .pointer 103), (30, .struct #[(fk "W" 3 0 0), (fk "H" 3 1 8), (fk "C" 22 2 16)]), (40, .slice 55), (43, .slice 4), (44, .int .u64), (46, .struct #[(fk "Rebuilds" 44 0 0), (fk "Searches" 44 1 8), (fk "Builds" 44 2 16), (fk "Hits" 44 3 24), (fk "Stale" 44 4 32), (fk "Evicts" 44 5 40)]), (48, .slice 67), (50, .slice 94), (52, .struct #[(fk "Code" 3 0 0), (fk "D" 3 1 8), (fk "Dir" 3 2 16), (fk "Id" 3 3 24), (fk "Moves" 50 4 32), (fk "Gone" 24 5 56), (fk "Stats" 46 6 80)]), (55, .struct #[(fk "Kind" 3 0 0), (fk "A" 3 1 8), (fk "B" 3 2 16), (fk "Map" 22 3 24)]), (59, .slice 120), (63, .slice 65), (65, .int .u32), (67, .struct #[(fk "Id" 3 0 0), (fk "Cell" 3 1 8), (fk "Goal" 3 2 16)]), (74, .slice 76), (76, .array 2 3), (79, .struct #[(fk "Dist" 24 0 0), (fk "Dir" 24 1 24)]), (88, .pointer 135), (94, .struct #[(fk "Id" 3 0 0), (fk "To" 3 1 8)]), (97, .struct #[(fk "Kind" 3 0 0), (fk "A" 3 1 8), (fk "B" 3 2 16)]), (101, .pointer 146), (103, .struct #[(bX "most" 3 0 0 "herdsman/svc"), (bX "nav" 88 1 8 "herdsman/svc"), (bX "crowd" 101 2 16 "herdsman/svc")]), (106, .interface #[("Error", 415)]), (110, .pointer 112), (112, .struct #[(bX "kind" 3 0 0 "herdsman/svc"), (bX "of" 106 1 8 "herdsman/svc")]), (117, .map 3 59), (118, .map 76 3), (120, .struct #[(fk "Goal" 3 0 0), (fk "Sector" 3 1 8), (fk "Ids" 24 2 16)]), (122, .map 3 4), (123, .array 6 44), (130, .pointer 167), (131, .pointer 213), (132, .pointer 233), (133, .pointer 173), (135, .struct #[(bX "grid" 130 0 0 "herdsman/nav"), (bX "mesh" 131 1 8 "herdsman/nav"), (bX "finder" 132 2 16 "herdsman/nav"), (bX "shelf" 133 3 24 "herdsman/nav"), (bX "past" 46 4 32 "herdsman/nav")]), (136, .int .u64), (139, .struct #[(fk "W" 3 0 0), (fk "H" 3 1 8), (fk "C" 22 2 16)]), (143, .pointer 178), (144, .pointer 221), (146, .struct #[(bX "w" 3 0 0 "herdsman/crowd"), (bX "h" 3 1 8 "herdsman/crowd"), (bX "most" 3 2 16 "herdsman/crowd"), (bX "units" 143 3 24 "herdsman/crowd"), (bX "floor" 144 4 32 "herdsman/crowd")]), (148, .int .i64), (160, .pointer 148), (165, .slice 2), (167, .struct #[(bX "m" 30 0 0 "herdsman/grid"), (bX "epoch" 2 3 40 "herdsman/grid"), (bX "versions" 165 4 48 "herdsman/grid")]), (169, .pointer 238), (171, .slice 291), (173, .struct #[(bX "keys" 169 0 0 "herdsman/shelf"), (bX "fields" 171 1 8 "herdsman/shelf"), (bX "count" 46 2 32 "herdsman/shelf")]), (176, .map 3 67), (178, .struct #[(bX "most" 3 0 0 "herdsman/units"), (bX "next" 3 1 8 "herdsman/units"), (bX "live" 176 2 16 "herdsman/units"), (bX "order" 24 3 24 "herdsman/units")]), (180, .struct #[(bX "a" 3 0 0 "herdsman/op"), (bX "b" 3 1 8 "herdsman/op"), (bX "load" 4 2 16 "herdsman/op")]), (211, .slice 217), (213, .struct #[(bX "g" 130 0 0 "herdsman/mesh"), (bX "parts" 211 1 8 "herdsman/mesh"), (bX "clean" 2 2 32 "herdsman/mesh"), (bX "count" 44 3 40 "herdsman/mesh")]), (215, .slice 21), (217, .struct #[(bX "version" 2 0 0 "herdsman/mesh"), (bX "nodes" 24 1 8 "herdsman/mesh"), (bX "dist" 215 2 32 "herdsman/mesh")]), (221, .struct #[(bX "words" 63 0 0 "herdsman/floor"), (bX "count" 3 1 24 "herdsman/floor")]), (222, .pointer 224), (224, .struct #[(bX "goal" 3 0 0 "herdsman/nav"), (bX "of" 106 1 8 "herdsman/nav")]), (227, .slice 285), (229, .pointer 235), (233, .struct #[(bX "m" 131 0 0 "herdsman/route"), (bX "g" 130 1 8 "herdsman/route"), (bX "kept" 229 2 16 "herdsman/route"), (bX "count" 44 3 24 "herdsman/route")]), (235, .struct #[(bX "goal" 3 0 0 "herdsman/route"), (bX "epoch" 2 1 8 "herdsman/route"), (bX "dist" 215 2 16 "herdsman/route")]), (236, .slice 278), (238, .struct #[(bX "k" 3 0 0 "herdsman/lru"), (bX "seats" 236 1 8 "herdsman/lru"), (bX "slots" 118 2 32 "herdsman/lru"), (bX "newest" 3 3 40 "herdsman/lru"), (bX "oldest" 3 4 48 "herdsman/lru")]), (243, .int .i64), (244, .pointer 243), (258, .map 3 3), (278, .struct #[(bX "key" 76 0 0 "herdsman/lru"), (bX "newer" 3 2 16 "herdsman/lru"), (bX "old" 3 3 24 "herdsman/lru")]), (280, .slice 283), (283, .struct #[(fk "To" 3 0 0), (fk "Cost" 3 1 8)]), (285, .struct #[(fk "Cell" 3 0 0), (fk "Side" 3 1 8), (fk "Key" 3 2 16)]), (291, .struct #[(bX "version" 2 0 0 "herdsman/shelf"), (bX "seeds" 227 1 8 "herdsman/shelf"), (bX "field" 79 2 32 "herdsman/shelf")]), (301, .pointer 303), (303, .struct #[(bX "sector" 3 0 0 "herdsman/atlas"), (bX "of" 106 1 8 "herdsman/atlas")]), (309, .struct #[(bX "w" 3 0 0 "herdsman/march"), (bX "h" 3 1 8 "herdsman/march"), (bX "stand" 122 2 16 "herdsman/march"), (bX "moves" 50 3 24 "herdsman/march"), (bX "gone" 24 4 48 "herdsman/march")]), (314, .array 4 3), (320, .pointer 357), (337, .struct #[(bX "t" 139 0 0 "herdsman/steer"), (bX "l" 227 3 40 "herdsman/steer"), (bX "dist" 24 4 64 "herdsman/steer")]), (340, .struct #[(bX "b" 22 0 0 "herdsman/pack"), (bX "at" 3 1 24 "herdsman/pack")]), (343, .pointer 346), (344, .pointer 343), (346, .struct #[(bX "at" 3 0 0 "herdsman/pack"), (bX "code" 3 1 8 "herdsman/pack"), (bX "of" 106 2 16 "herdsman/pack")]), (355, .slice 359), (357, .struct #[(bX "l" 355 0 0 "herdsman/heap")]), (359, .struct #[(bX "key" 3 0 0 "herdsman/heap"), (bX "item" 3 1 8 "herdsman/heap")]), (360, .pointer 217), (365, .pointer 396), (369, .struct #[(bX "t" 139 0 0 "herdsman/sweep"), (bX "wait" 365 3 40 "herdsman/sweep"), (bX "todo" 227 4 48 "herdsman/sweep"), (bX "dist" 24 5 72 "herdsman/sweep")]), (393, .struct #[(bX "items" 24 0 0 "herdsman/ring"), (bX "gone" 3 1 24 "herdsman/ring")]), (394, .array 256 393), (396, .struct #[(bX "at" 3 0 0 "herdsman/ring"), (bX "len" 3 1 8 "herdsman/ring"), (bX "buckets" 394 2 16 "herdsman/ring")])]
 [(2,(1,8,(ii 0))),(3,(1,8,(ii 0))),(4,(1,1,(bb false))),(5,(1,1,(.int .u8 0))),(21,(1,4,(.int .i32 0))),(22,(1,24,nl)),(24,(1,24,nl)),(30,(3,40,(.agg #[(ii 0),(ii 0),nl]))),(44,(1,8,(uu 0))),(46,(6,48,(.agg #[(uu 0),(uu 0),(uu 0),(uu 0),(uu 0),(uu 0)]))),(50,(1,24,nl)),(52,(12,128,(.agg #[(ii 0),(ii 0),(ii 0),(ii 0),nl,nl,(uu 0),(uu 0),(uu 0),(uu 0),(uu 0),(uu 0)]))),(55,(4,48,(.agg #[(ii 0),(ii 0),(ii 0),nl]))),(59,(1,24,nl)),(63,(1,24,nl)),(65,(1,4,(.int .u32 0))),(67,(3,24,(.agg #[(ii 0),(ii 0),(ii 0)]))),(76,(2,16,(.agg #[(ii 0),(ii 0)]))),(79,(2,48,(.agg #[nl,nl]))),(88,(1,8,(.pointer none))),(94,(2,16,(.agg #[(ii 0),(ii 0)]))),(97,(3,24,(.agg #[(ii 0),(ii 0),(ii 0)]))),(101,(1,8,(.pointer none))),(103,(3,24,(.agg #[(ii 0),(.pointer none),(.pointer none)]))),(106,(1,16,.nilIface)),(112,(2,24,(.agg #[(ii 0),.nilIface]))),(118,(1,8,(.map none))),(120,(3,40,(.agg #[(ii 0),(ii 0),nl]))),(122,(1,8,(.map none))),(123,(6,48,(.agg #[(uu 0),(uu 0),(uu 0),(uu 0),(uu 0),(uu 0)]))),(130,(1,8,(.pointer none))),(131,(1,8,(.pointer none))),(132,(1,8,(.pointer none))),(133,(1,8,(.pointer none))),(135,(10,80,(.agg #[(.pointer none),(.pointer none),(.pointer none),(.pointer none),(uu 0),(uu 0),(uu 0),(uu 0),(uu 0),(uu 0)]))),(139,(3,40,(.agg #[(ii 0),(ii 0),nl]))),(143,(1,8,(.pointer none))),(144,(1,8,(.pointer none))),(146,(5,40,(.agg #[(ii 0),(ii 0),(ii 0),(.pointer none),(.pointer none)]))),(148,(1,8,(ii 0))),(165,(1,24,nl)),(167,(5,72,(.agg #[(ii 0),(ii 0),nl,(ii 0),nl]))),(169,(1,8,(.pointer none))),(171,(1,24,nl)),(173,(8,80,(.agg #[(.pointer none),nl,(uu 0),(uu 0),(uu 0),(uu 0),(uu 0),(uu 0)]))),(176,(1,8,(.map none))),(178,(4,48,(.agg #[(ii 0),(ii 0),(.map none),nl]))),(180,(3,24,(.agg #[(ii 0),(ii 0),(bb false)]))),(211,(1,24,nl)),(213,(4,48,(.agg #[(.pointer none),nl,(ii 0),(uu 0)]))),(215,(1,24,nl)),(217,(3,56,(.agg #[(ii 0),nl,nl]))),(221,(2,32,(.agg #[nl,(ii 0)]))),(224,(2,24,(.agg #[(ii 0),.nilIface]))),(227,(1,24,nl)),(229,(1,8,(.pointer none))),(233,(4,32,(.agg #[(.pointer none),(.pointer none),(.pointer none),(uu 0)]))),(235,(3,40,(.agg #[(ii 0),(ii 0),nl]))),(236,(1,24,nl)),(238,(5,56,(.agg #[(ii 0),nl,(.map none),(ii 0),(ii 0)]))),(243,(1,8,(ii 0))),(278,(4,32,(.agg #[(ii 0),(ii 0),(ii 0),(ii 0)]))),(283,(2,16,(.agg #[(ii 0),(ii 0)]))),(285,(3,24,(.agg #[(ii 0),(ii 0),(ii 0)]))),(291,(4,80,(.agg #[(ii 0),nl,nl,nl]))),(303,(2,24,(.agg #[(ii 0),.nilIface]))),(309,(5,72,(.agg #[(ii 0),(ii 0),(.map none),nl,nl]))),(314,(4,32,(.agg #[(ii 0),(ii 0),(ii 0),(ii 0)]))),(337,(5,88,(.agg #[(ii 0),(ii 0),nl,nl,nl]))),(340,(2,32,(.agg #[nl,(ii 0)]))),(343,(1,8,(.pointer none))),(346,(3,32,(.agg #[(ii 0),(ii 0),.nilIface]))),(355,(1,24,nl)),(357,(1,24,(.agg #[nl]))),(359,(2,16,(.agg #[(ii 0),(ii 0)]))),(365,(1,8,(.pointer none))),(369,(6,96,(.agg #[(ii 0),(ii 0),nl,(.pointer none),nl,nl]))),(393,(2,32,(.agg #[nl,(ii 0)]))),(394,(512,8192,(.agg #[nl,(ii 0),nl,(ii 0),nl,(ii 0),nl,(ii 0),nl,(ii 0),nl,(ii 0),nl,(ii 0),nl,(ii 0),nl,(ii 0),nl,(ii 0),nl,(ii 0),nl,(ii 0),nl,(ii 0),nl,(ii 0),nl,(ii 0),nl,(ii 0),nl,(ii 0),nl,(ii 0),nl,(ii 0),nl,(ii 0),nl,(ii 0),nl,(ii 0),nl,(ii 0),nl,(ii 0),nl,(ii 0),nl,(ii 0),nl,(ii 0),nl,(ii 0),nl,(ii 0),nl,(ii 0),nl,(ii 0),nl,(ii 0),nl,(ii 0),nl,(ii 0),nl,(ii 0),nl,(ii 0),nl,(ii 0),nl,(ii 0),nl,(ii 0),nl,(ii 0),nl,(ii 0),nl,(ii 0),nl,(ii 0),nl,(ii 0),nl,(ii 0),nl,(ii 0),nl,(ii 0),nl,(ii 0),nl,(ii 0),nl,(ii 0),nl,(ii 0),nl,(ii 0),nl,(ii 0),nl,(ii 0),nl,(ii 0),nl,(ii 0),nl,(ii 0),nl,(ii 0),nl,(ii 0),nl,(ii 0),nl,(ii 0),nl,(ii 0),nl,(ii 0),nl,(ii 0),nl,(ii 0),nl,(ii 0),nl,(ii 0),nl,(ii 0),nl,(ii 0),nl,(ii 0),nl,(ii 0),nl,(ii 0),nl,(ii 0),nl,(ii 0),nl,(ii 0),nl,(ii 0),nl,(ii 0),nl,(ii 0),nl,(ii 0),nl,(ii 0),nl,(ii 0),nl,(ii 0),nl,(ii 0),nl,(ii 0),nl,(ii 0),nl,(ii 0),nl,(ii 0),nl,(ii 0),nl,(ii 0),nl,(ii 0),nl,(ii 0),nl,(ii 0),nl,(ii 0),nl,(ii 0),nl,(ii 0),nl,(ii 0),nl,(ii 0),nl,(ii 0),nl,(ii 0),nl,(ii 0),nl,(ii 0),nl,(ii 0),nl,(ii 0),nl,(ii 0),nl,(ii 0),nl,(ii 0),nl,(ii 0),nl,(ii 0),nl,(ii 0),nl,(ii 0),nl,(ii 0),nl,(ii 0),nl,(ii 0),nl,(ii 0),nl,(ii 0),nl,(ii 0),nl,(ii 0),nl,(ii 0),nl,(ii 0),nl,(ii 0),nl,(ii 0),nl,(ii 0),nl,(ii 0),nl,(ii 0),nl,(ii 0),nl,(ii 0),nl,(ii 0),nl,(ii 0),nl,(ii 0),nl,(ii 0),nl,(ii 0),nl,(ii 0),nl,(ii 0),nl,(ii 0),nl,(ii 0),nl,(ii 0),nl,(ii 0),nl,(ii 0),nl,(ii 0),nl,(ii 0),nl,(ii 0),nl,(ii 0),nl,(ii 0),nl,(ii 0),nl,(ii 0),nl,(ii 0),nl,(ii 0),nl,(ii 0),nl,(ii 0),nl,(ii 0),nl,(ii 0),nl,(ii 0),nl,(ii 0),nl,(ii 0),nl,(ii 0),nl,(ii 0),nl,(ii 0),nl,(ii 0),nl,(ii 0),nl,(ii 0),nl,(ii 0),nl,(ii 0),nl,(ii 0),nl,(ii 0),nl,(ii 0),nl,(ii 0),nl,(ii 0),nl,(ii 0),nl,(ii 0),nl,(ii 0),nl,(ii 0),nl,(ii 0),nl,(ii 0),nl,(ii 0),nl,(ii 0),nl,(ii 0),nl,(ii 0),nl,(ii 0),nl,(ii 0),nl,(ii 0),nl,(ii 0),nl,(ii 0),nl,(ii 0),nl,(ii 0),nl,(ii 0),nl,(ii 0),nl,(ii 0),nl,(ii 0),nl,(ii 0),nl,(ii 0),nl,(ii 0),nl,(ii 0),nl,(ii 0),nl,(ii 0),nl,(ii 0),nl,(ii 0),nl,(ii 0),nl,(ii 0),nl,(ii 0),nl,(ii 0),nl,(ii 0),nl,(ii 0),nl,(ii 0),nl,(ii 0),nl,(ii 0),nl,(ii 0),nl,(ii 0),nl,(ii 0),nl,(ii 0),nl,(ii 0),nl,(ii 0),nl,(ii 0),nl,(ii 0),nl,(ii 0),nl,(ii 0),nl,(ii 0),nl,(ii 0),nl,(ii 0),nl,(ii 0),nl,(ii 0),nl,(ii 0),nl,(ii 0),nl,(ii 0),nl,(ii 0),nl,(ii 0),nl,(ii 0),nl,(ii 0),nl,(ii 0),nl,(ii 0),nl,(ii 0),nl,(ii 0),nl,(ii 0),nl,(ii 0),nl,(ii 0),nl,(ii 0),nl,(ii 0),nl,(ii 0),nl,(ii 0),nl,(ii 0),nl,(ii 0),nl,(ii 0),nl,(ii 0),nl,(ii 0),nl,(ii 0),nl,(ii 0),nl,(ii 0),nl,(ii 0),nl,(ii 0),nl,(ii 0),nl,(ii 0),nl,(ii 0),nl,(ii 0),nl,(ii 0),nl,(ii 0),nl,(ii 0),nl,(ii 0)]))),(396,(514,8208,(.agg #[(ii 0),(ii 0),nl,(ii 0),nl,(ii 0),nl,(ii 0),nl,(ii 0),nl,(ii 0),nl,(ii 0),nl,(ii 0),nl,(ii 0),nl,(ii 0),nl,(ii 0),nl,(ii 0),nl,(ii 0),nl,(ii 0),nl,(ii 0),nl,(ii 0),nl,(ii 0),nl,(ii 0),nl,(ii 0),nl,(ii 0),nl,(ii 0),nl,(ii 0),nl,(ii 0),nl,(ii 0),nl,(ii 0),nl,(ii 0),nl,(ii 0),nl,(ii 0),nl,(ii 0),nl,(ii 0),nl,(ii 0),nl,(ii 0),nl,(ii 0),nl,(ii 0),nl,(ii 0),nl,(ii 0),nl,(ii 0),nl,(ii 0),nl,(ii 0),nl,(ii 0),nl,(ii 0),nl,(ii 0),nl,(ii 0),nl,(ii 0),nl,(ii 0),nl,(ii 0),nl,(ii 0),nl,(ii 0),nl,(ii 0),nl,(ii 0),nl,(ii 0),nl,(ii 0),nl,(ii 0),nl,(ii 0),nl,(ii 0),nl,(ii 0),nl,(ii 0),nl,(ii 0),nl,(ii 0),nl,(ii 0),nl,(ii 0),nl,(ii 0),nl,(ii 0),nl,(ii 0),nl,(ii 0),nl,(ii 0),nl,(ii 0),nl,(ii 0),nl,(ii 0),nl,(ii 0),nl,(ii 0),nl,(ii 0),nl,(ii 0),nl,(ii 0),nl,(ii 0),nl,(ii 0),nl,(ii 0),nl,(ii 0),nl,(ii 0),nl,(ii 0),nl,(ii 0),nl,(ii 0),nl,(ii 0),nl,(ii 0),nl,(ii 0),nl,(ii 0),nl,(ii 0),nl,(ii 0),nl,(ii 0),nl,(ii 0),nl,(ii 0),nl,(ii 0),nl,(ii 0),nl,(ii 0),nl,(ii 0),nl,(ii 0),nl,(ii 0),nl,(ii 0),nl,(ii 0),nl,(ii 0),nl,(ii 0),nl,(ii 0),nl,(ii 0),nl,(ii 0),nl,(ii 0),nl,(ii 0),nl,(ii 0),nl,(ii 0),nl,(ii 0),nl,(ii 0),nl,(ii 0),nl,(ii 0),nl,(ii 0),nl,(ii 0),nl,(ii 0),nl,(ii 0),nl,(ii 0),nl,(ii 0),nl,(ii 0),nl,(ii 0),nl,(ii 0),nl,(ii 0),nl,(ii 0),nl,(ii 0),nl,(ii 0),nl,(ii 0),nl,(ii 0),nl,(ii 0),nl,(ii 0),nl,(ii 0),nl,(ii 0),nl,(ii 0),nl,(ii 0),nl,(ii 0),nl,(ii 0),nl,(ii 0),nl,(ii 0),nl,(ii 0),nl,(ii 0),nl,(ii 0),nl,(ii 0),nl,(ii 0),nl,(ii 0),nl,(ii 0),nl,(ii 0),nl,(ii 0),nl,(ii 0),nl,(ii 0),nl,(ii 0),nl,(ii 0),nl,(ii 0),nl,(ii 0),nl,(ii 0),nl,(ii 0),nl,(ii 0),nl,(ii 0),nl,(ii 0),nl,(ii 0),nl,(ii 0),nl,(ii 0),nl,(ii 0),nl,(ii 0),nl,(ii 0),nl,(ii 0),nl,(ii 0),nl,(ii 0),nl,(ii 0),nl,(ii 0),nl,(ii 0),nl,(ii 0),nl,(ii 0),nl,(ii 0),nl,(ii 0),nl,(ii 0),nl,(ii 0),nl,(ii 0),nl,(ii 0),nl,(ii 0),nl,(ii 0),nl,(ii 0),nl,(ii 0),nl,(ii 0),nl,(ii 0),nl,(ii 0),nl,(ii 0),nl,(ii 0),nl,(ii 0),nl,(ii 0),nl,(ii 0),nl,(ii 0),nl,(ii 0),nl,(ii 0),nl,(ii 0),nl,(ii 0),nl,(ii 0),nl,(ii 0),nl,(ii 0),nl,(ii 0),nl,(ii 0),nl,(ii 0),nl,(ii 0),nl,(ii 0),nl,(ii 0),nl,(ii 0),nl,(ii 0),nl,(ii 0),nl,(ii 0),nl,(ii 0),nl,(ii 0),nl,(ii 0),nl,(ii 0),nl,(ii 0),nl,(ii 0),nl,(ii 0),nl,(ii 0),nl,(ii 0),nl,(ii 0),nl,(ii 0),nl,(ii 0),nl,(ii 0),nl,(ii 0),nl,(ii 0),nl,(ii 0),nl,(ii 0),nl,(ii 0),nl,(ii 0),nl,(ii 0),nl,(ii 0),nl,(ii 0),nl,(ii 0),nl,(ii 0),nl,(ii 0),nl,(ii 0),nl,(ii 0),nl,(ii 0),nl,(ii 0),nl,(ii 0),nl,(ii 0),nl,(ii 0),nl,(ii 0),nl,(ii 0),nl,(ii 0),nl,(ii 0),nl,(ii 0),nl,(ii 0),nl,(ii 0),nl,(ii 0),nl,(ii 0),nl,(ii 0),nl,(ii 0),nl,(ii 0),nl,(ii 0),nl,(ii 0),nl,(ii 0),nl,(ii 0),nl,(ii 0),nl,(ii 0)])))]
abbrev ajW:=Has Tryz.prog
theorem lA:ajW 12:=aH Tryz.func12
theorem ab0:ajW 13:=aH Tryz.func13
theorem ab2:ajW 14:=aH Tryz.func14
theorem acj:ajW 18:=aH Tryz.func18
theorem acx:ajW 20:=aH Tryz.func20
theorem SG:ajW 21:=aH Tryz.func21
theorem SJ:ajW 22:=aH Tryz.func22
theorem acN:ajW 23:=aH Tryz.func23
theorem FQ:ajW 24:=aH Tryz.func24
theorem M3:ajW 25:=aH Tryz.func25
theorem rC:ajW 26:=aH Tryz.func26
theorem adf:ajW 28:=aH Tryz.func28
theorem adk:ajW 29:=aH Tryz.func29
theorem adu:ajW 35:=aH Tryz.func35
theorem adv:ajW 40:=aH Tryz.func40
theorem Js:ajW 42:=aH Tryz.func42
theorem adw:ajW 43:=aH Tryz.func43
theorem M8:ajW 45:=aH Tryz.func45
theorem adx:ajW 46:=aH Tryz.func46
theorem Jt:ajW 47:=aH Tryz.func47
theorem SZ:ajW 48:=aH Tryz.func48
theorem M9:ajW 49:=aH Tryz.func49
theorem ady:ajW 50:=aH Tryz.func50
theorem adz:ajW 51:=aH Tryz.func51
theorem adA:ajW 52:=aH Tryz.func52
theorem S0:ajW 53:=aH Tryz.func53
theorem Ju:ajW 54:=aH Tryz.func54
theorem adB:ajW 55:=aH Tryz.func55
theorem adC:ajW 56:=aH Tryz.func56
theorem M_:ajW 57:=aH Tryz.func57
theorem Na:ajW 58:=aH Tryz.func58
theorem FT:ajW 59:=aH Tryz.func59
theorem S3:ajW 61:=aH Tryz.func61
theorem pR:ajW 62:=aH Tryz.func62
theorem adD:ajW 66:=aH Tryz.func66
theorem adE:ajW 67:=aH Tryz.func67
theorem S4:ajW 68:=aH Tryz.func68
theorem S5:ajW 70:=aH Tryz.func70
theorem adF:ajW 71:=aH Tryz.func71
theorem adG:ajW 72:=aH Tryz.func72
theorem S6:ajW 74:=aH Tryz.func74
theorem adH:ajW 75:=aH Tryz.func75
theorem adI:ajW 76:=aH Tryz.func76
theorem adJ:ajW 77:=aH Tryz.func77
theorem Nb:ajW 78:=aH Tryz.func78
theorem S7:ajW 79:=aH Tryz.func79
theorem adK:ajW 80:=aH Tryz.func80
theorem adL:ajW 81:=aH Tryz.func81
theorem adM:ajW 82:=aH Tryz.func82
theorem adN:ajW 83:=aH Tryz.func83
theorem adO:ajW 84:=aH Tryz.func84
theorem adP:ajW 85:=aH Tryz.func85
theorem adQ:ajW 86:=aH Tryz.func86
theorem adR:ajW 87:=aH Tryz.func87
theorem u_:ajW 88:=aH Tryz.func88
theorem S8:ajW 89:=aH Tryz.func89
theorem S9:ajW 90:=aH Tryz.func90
theorem adS:ajW 91:=aH Tryz.func91
theorem adT:ajW 92:=aH Tryz.func92
theorem Jv:ajW 93:=aH Tryz.func93
theorem Jw:ajW 94:=aH Tryz.func94
theorem Nc:ajW 95:=aH Tryz.func95
theorem BS:ajW 96:=aH Tryz.func96
theorem adU:ajW 97:=aH Tryz.func97
theorem adV:ajW 99:=aH Tryz.func99
theorem Sb:ajW 100:=aH Tryz.func100
theorem Sc:ajW 101:=aH Tryz.func101
theorem Sd:ajW 102:=aH Tryz.func102
theorem MO:ajW 103:=aH Tryz.func103
theorem abN:ajW 104:=aH Tryz.func104
theorem abO:ajW 105:=aH Tryz.func105
theorem Jj:ajW 106:=aH Tryz.func106
theorem Se:ajW 107:=aH Tryz.func107
theorem Sf:ajW 108:=aH Tryz.func108
theorem Sg:ajW 109:=aH Tryz.func109
theorem abP:ajW 110:=aH Tryz.func110
theorem MP:ajW 111:=aH Tryz.func111
theorem MQ:ajW 112:=aH Tryz.func112
theorem Jk:ajW 113:=aH Tryz.func113
theorem abQ:ajW 114:=aH Tryz.func114
theorem abR:ajW 115:=aH Tryz.func115
theorem abS:ajW 116:=aH Tryz.func116
theorem MR:ajW 117:=aH Tryz.func117
theorem Sh:ajW 118:=aH Tryz.func118
theorem abT:ajW 119:=aH Tryz.func119
theorem abU:ajW 120:=aH Tryz.func120
theorem abV:ajW 121:=aH Tryz.func121
theorem BP:ajW 122:=aH Tryz.func122
theorem MS:ajW 123:=aH Tryz.func123
theorem Si:ajW 124:=aH Tryz.func124
theorem MT:ajW 125:=aH Tryz.func125
theorem abW:ajW 126:=aH Tryz.func126
theorem abX:ajW 127:=aH Tryz.func127
theorem abY:ajW 128:=aH Tryz.func128
theorem abZ:ajW 129:=aH Tryz.func129
theorem BQ:ajW 136:=aH Tryz.func136
theorem BR:ajW 137:=aH Tryz.func137
theorem ab1:ajW 139:=aH Tryz.func139
theorem Sj:ajW 140:=aH Tryz.func140
theorem u9:ajW 141:=aH Tryz.func141
theorem Sk:ajW 142:=aH Tryz.func142
theorem ab3:ajW 143:=aH Tryz.func143
theorem DJ:ajW 144:=aH Tryz.func144
theorem Sl:ajW 145:=aH Tryz.func145
theorem ab4:ajW 146:=aH Tryz.func146
theorem ab5:ajW 147:=aH Tryz.func147
theorem Sm:ajW 148:=aH Tryz.func148
theorem Sn:ajW 149:=aH Tryz.func149
theorem Sp:ajW 150:=aH Tryz.func150
theorem Sq:ajW 151:=aH Tryz.func151
theorem ab6:ajW 152:=aH Tryz.func152
theorem Sr:ajW 153:=aH Tryz.func153
theorem FM:ajW 154:=aH Tryz.func154
theorem ab7:ajW 155:=aH Tryz.func155
theorem ab8:ajW 156:=aH Tryz.func156
theorem Ss:ajW 157:=aH Tryz.func157
theorem MU:ajW 158:=aH Tryz.func158
theorem ab9:ajW 159:=aH Tryz.func159
theorem St:ajW 160:=aH Tryz.func160
theorem Su:ajW 161:=aH Tryz.func161
theorem ab_:ajW 162:=aH Tryz.func162
theorem ab':ajW 163:=aH Tryz.func163
theorem Sv:ajW 164:=aH Tryz.func164
theorem FN:ajW 165:=aH Tryz.func165
theorem aca:ajW 166:=aH Tryz.func166
theorem acb:ajW 167:=aH Tryz.func167
theorem acd:ajW 168:=aH Tryz.func168
theorem tP:ajW 171:=aH Tryz.func171
theorem FO:ajW 172:=aH Tryz.func172
theorem Jl:ajW 173:=aH Tryz.func173
theorem ace:ajW 174:=aH Tryz.func174
theorem Jm:ajW 175:=aH Tryz.func175
theorem acf:ajW 176:=aH Tryz.func176
theorem acg:ajW 177:=aH Tryz.func177
theorem ach:ajW 178:=aH Tryz.func178
theorem aci:ajW 179:=aH Tryz.func179
theorem FP:ajW 180:=aH Tryz.func180
theorem ack:ajW 181:=aH Tryz.func181
theorem acm:ajW 182:=aH Tryz.func182
theorem Sw:ajW 183:=aH Tryz.func183
theorem acn:ajW 184:=aH Tryz.func184
theorem aco:ajW 185:=aH Tryz.func185
theorem Jn:ajW 186:=aH Tryz.func186
theorem Sy:ajW 187:=aH Tryz.func187
theorem acp:ajW 188:=aH Tryz.func188
theorem Sz:ajW 189:=aH Tryz.func189
theorem MV:ajW 190:=aH Tryz.func190
theorem acq:ajW 191:=aH Tryz.func191
theorem acr:ajW 192:=aH Tryz.func192
theorem acs:ajW 193:=aH Tryz.func193
theorem MW:ajW 194:=aH Tryz.func194
theorem SA:ajW 195:=aH Tryz.func195
theorem SB:ajW 196:=aH Tryz.func196
theorem acu:ajW 197:=aH Tryz.func197
theorem acv:ajW 198:=aH Tryz.func198
theorem acw:ajW 199:=aH Tryz.func199
theorem acy:ajW 200:=aH Tryz.func200
theorem SC:ajW 201:=aH Tryz.func201
theorem SD:ajW 202:=aH Tryz.func202
theorem acz:ajW 203:=aH Tryz.func203
theorem MX:ajW 204:=aH Tryz.func204
theorem SE:ajW 205:=aH Tryz.func205
theorem SF:ajW 206:=aH Tryz.func206
theorem Ae:ajW 207:=aH Tryz.func207
theorem acA:ajW 208:=aH Tryz.func208
theorem acB:ajW 210:=aH Tryz.func210
theorem acC:ajW 211:=aH Tryz.func211
theorem acD:ajW 212:=aH Tryz.func212
theorem SH:ajW 213:=aH Tryz.func213
theorem acE:ajW 214:=aH Tryz.func214
theorem acF:ajW 215:=aH Tryz.func215
theorem SI:ajW 216:=aH Tryz.func216
theorem Jo:ajW 217:=aH Tryz.func217
theorem Jp:ajW 218:=aH Tryz.func218
theorem acG:ajW 219:=aH Tryz.func219
theorem Jq:ajW 220:=aH Tryz.func220
theorem acH:ajW 221:=aH Tryz.func221
theorem acI:ajW 222:=aH Tryz.func222
theorem acJ:ajW 223:=aH Tryz.func223
theorem SK:ajW 224:=aH Tryz.func224
theorem acK:ajW 225:=aH Tryz.func225
theorem acL:ajW 226:=aH Tryz.func226
theorem MY:ajW 227:=aH Tryz.func227
theorem SL:ajW 228:=aH Tryz.func228
theorem acM:ajW 229:=aH Tryz.func229
theorem acO:ajW 230:=aH Tryz.func230
theorem acP:ajW 231:=aH Tryz.func231
theorem acQ:ajW 232:=aH Tryz.func232
theorem acR:ajW 233:=aH Tryz.func233
theorem acS:ajW 234:=aH Tryz.func234
theorem acT:ajW 235:=aH Tryz.func235
theorem acU:ajW 236:=aH Tryz.func236
theorem MZ:ajW 237:=aH Tryz.func237
theorem acV:ajW 238:=aH Tryz.func238
theorem M0:ajW 239:=aH Tryz.func239
theorem acW:ajW 240:=aH Tryz.func240
theorem acX:ajW 241:=aH Tryz.func241
theorem acY:ajW 242:=aH Tryz.func242
theorem SM:ajW 243:=aH Tryz.func243
theorem acZ:ajW 244:=aH Tryz.func244
theorem SN:ajW 245:=aH Tryz.func245
theorem ac0:ajW 246:=aH Tryz.func246
theorem SP:ajW 247:=aH Tryz.func247
theorem M1:ajW 248:=aH Tryz.func248
theorem ac1:ajW 249:=aH Tryz.func249
theorem SQ:ajW 250:=aH Tryz.func250
theorem ac2:ajW 251:=aH Tryz.func251
theorem ac3:ajW 252:=aH Tryz.func252
theorem ac4:ajW 253:=aH Tryz.func253
theorem ac5:ajW 254:=aH Tryz.func254
theorem ac6:ajW 255:=aH Tryz.func255
theorem ac7:ajW 264:=aH Tryz.func264
theorem Jr:ajW 265:=aH Tryz.func265
theorem ac8:ajW 266:=aH Tryz.func266
theorem ac9:ajW 267:=aH Tryz.func267
theorem ac_:ajW 269:=aH Tryz.func269
theorem SR:ajW 270:=aH Tryz.func270
theorem ac':ajW 271:=aH Tryz.func271
theorem ada:ajW 272:=aH Tryz.func272
theorem M4:ajW 273:=aH Tryz.func273
theorem M5:ajW 274:=aH Tryz.func274
theorem adb:ajW 275:=aH Tryz.func275
theorem ade:ajW 276:=aH Tryz.func276
theorem wS:ajW 277:=aH Tryz.func277
theorem M6:ajW 278:=aH Tryz.func278
theorem SS:ajW 279:=aH Tryz.func279
theorem SU:ajW 280:=aH Tryz.func280
theorem adg:ajW 281:=aH Tryz.func281
theorem adh:ajW 282:=aH Tryz.func282
theorem adi:ajW 288:=aH Tryz.func288
theorem adj:ajW 289:=aH Tryz.func289
theorem adl:ajW 290:=aH Tryz.func290
theorem SV:ajW 291:=aH Tryz.func291
theorem SX:ajW 292:=aH Tryz.func292
theorem M7:ajW 293:=aH Tryz.func293
theorem FR:ajW 294:=aH Tryz.func294
theorem adm:ajW 295:=aH Tryz.func295
theorem adn:ajW 297:=aH Tryz.func297
theorem ado:ajW 299:=aH Tryz.func299
theorem adp:ajW 300:=aH Tryz.func300
theorem SY:ajW 301:=aH Tryz.func301
theorem adq:ajW 302:=aH Tryz.func302
theorem adr:ajW 303:=aH Tryz.func303
theorem ads:ajW 304:=aH Tryz.func304
theorem adt:ajW 305:=aH Tryz.func305
theorem mix:Tryz.prog.follows .mixedOrders=true:=ay
theorem aiu:Tryz.prog.stoodInHeld 76=false/\Tryz.prog.eqGuardType Tryz.prog.depth 76=false:=⟨by kernel_rfl,by kernel_rfl⟩
theorem aiv:Tryz.prog.stoodInHeld 94=false/\Tryz.prog.eqGuardType Tryz.prog.depth 94=false:=⟨by kernel_rfl,by kernel_rfl⟩
theorem O_:Tryz.prog.stoodInHeld 285=false/\Tryz.prog.eqGuardType Tryz.prog.depth 285=false:=⟨by kernel_rfl,by kernel_rfl⟩
@[reducible] def Xs (o : Option fg) (v : Value) (G : List Hp) : Prop := match o with
 |none=>v= .pointer none/\G=[]
 |some x=> ∃(b:Nat) (a0:Option Addr) (n0:Nat) (H0:Hp) (a1:Nat) (H1:Hp),aj jI 278 x.ak a0 n0 H0/\cP (Ky.pair T .i64 rfl rfl rfl lb u3) (λx:Int=>Value.int .i64 x) x.ft a1 H1/\v= .pointer (some ⟨b,0,none⟩)/\G=[(cl b 238 [(ii x.k),(ll a0 x.ak n0),(.map (some a1)),(ii x.cy),(ii x.cZ)]),H0,H1]
def ri (x:iU) (b:Nat) (H:Hp):Prop:= ∃(b0:Nat) (a1:Option Addr) (n1:Nat) (H1:Hp) (a2:Nat) (H2:Hp) (a3:Option Addr) (n3:Nat) (H3:Hp),aj jI 278 x.keys.ak a1 n1 H1/\cP (Ky.pair T .i64 rfl rfl rfl lb u3) (λx:Int=>Value.int .i64 x) x.keys.ft a2 H2/\gu Eg 291 x.fields a3 n3 H3/\H=List.flatten [(cl b 173 [(pp b0),(ll a3 x.fields n3),(uu x.count.bC),(uu x.count.bD),(uu x.count.bA),(uu x.count.bx),(uu x.count.bM),(uu x.count.bE)]),(cl b0 238 [(ii x.keys.k),(ll a1 x.keys.ak n1),(.map (some a2)),(ii x.keys.cy),(ii x.keys.cZ)]),H1,H2,H3]
@[reducible] def Xy (o : Option iU) (v : Value) (G : List Hp) : Prop := match o with
 |none=>v= .pointer none/\G=[]
 |some x=> ∃(b:Nat) (H:Hp),ri x b H/\v= .pointer (some ⟨b,0,none⟩)/\G=[H]
def iq (x:bt) (b:Nat) (H:Hp):Prop:= ∃(a0:Option Addr) (n0:Nat) (H0:Hp) (a1:Option Addr) (n1:Nat) (H1:Hp),aj (Fl.int .u8) 5 x.m.C a0 n0 H0/\aj (Fl.int .i64) 2 x.pz a1 n1 H1/\H=List.flatten [(cl b 167 [(ii x.m.W),(ii x.m.H),(ll a0 x.m.C n0),(ii x.bL),(ll a1 x.pz n1)]),H0,H1]
def l7 (x:dz) (b:Nat) (l0:Nat) (H:Hp):Prop:= ∃(a0:Option Addr) (n0:Nat) (H0:Hp),gu Oy 217 x.parts a0 n0 H0/\H=List.flatten [(cl b 213 [(pp l0),(ll a0 x.parts n0),(ii x.clean),(uu x.count)]),H0]
def Ld (o:Option ie) (l0:Nat) (l1:Nat) (v0:Value) (H:Hp):Prop:=match o with
 |none=>v0= .pointer none/\H=[]
 |some y=> ∃(b0:Nat) (a1:Option Addr) (n1:Nat) (H1:Hp),aj (Fl.int .i32) 21 y.aQ a1 n1 H1/\v0=(pp b0)/\H=List.flatten [(cl b0 235 [(ii y.goal),(ii y.bL),(ll a1 y.aQ n1)]),H1]
def rZ (x:jN) (b:Nat) (l0:Nat) (l1:Nat) (H:Hp):Prop:= ∃(v0:Value) (Ho:Hp),Ld x.kept l0 l1 v0 Ho/\H=List.flatten [(cl b 233 [(pp l0),(pp l1),v0,(uu x.count)]),Ho]
def uC (o:Option eI) (v0 v1 v2:Value) (H:Hp):Prop:=match o with
 |none=>v0= .pointer none/\v1= .pointer none/\v2= .pointer none/\H=[]
 |some y=> ∃(b0:Nat) (H0:Hp) (b1:Nat) (H1:Hp) (b2:Nat) (H2:Hp),iq y.aI b0 H0/\l7 y.hZ b1 b0 H1/\rZ y.gZ b2 b1 b0 H2/\v0=(pp b0)/\v1=(pp b1)/\v2=(pp b2)/\H=List.flatten [H0,H1,H2]
def gi (x:bY) (b:Nat) (H:Hp):Prop:= ∃(b0:Nat) (H0:Hp) (v0 v1 v2:Value) (Ho:Hp),ri x.eh b0 H0/\uC x.core v0 v1 v2 Ho/\H=List.flatten [(cl b 135 [v0,v1,v2,(pp b0),(uu x.aU.bC),(uu x.aU.bD),(uu x.aU.bA),(uu x.aU.bx),(uu x.aU.bM),(uu x.aU.bE)]),H0,Ho]
@[reducible] def Xu (o : Option bY) (v : Value) (G : List Hp) : Prop := match o with
 |none=>v= .pointer none/\G=[]
 |some x=> ∃(b:Nat) (H:Hp),gi x b H/\v= .pointer (some ⟨b,0,none⟩)/\G=[H]
def lJ (x:d_) (b:Nat) (H:Hp):Prop:= ∃(b0:Nat) (a1:Nat) (H1:Hp) (a2:Option Addr) (n2:Nat) (H2:Hp) (b3:Nat) (a4:Option Addr) (n4:Nat) (H4:Hp),cP (Ky.int .i64 u3) (λx:aF=>Value.agg #[.int .i64 x.Id,.int .i64 x.Cell,.int .i64 x.Goal]) x.cT.live a1 H1/\aj (Fl.int .i64) 3 x.cT.order a2 n2 H2/\aj (Fl.int .u32) 65 x.floor.words a4 n4 H4/\H=List.flatten [(cl b 146 [(ii x.w),(ii x.h),(ii x.most),(pp b0),(pp b3)]),(cl b0 178 [(ii x.cT.most),(ii x.cT.next),(.map (some a1)),(ll a2 x.cT.order n2)]),H1,H2,(cl b3 221 [(ll a4 x.floor.words n4),(ii x.floor.count)]),H4]
def Bj (o:Option d_) (v0:Value) (H:Hp):Prop:=match o with
 |none=>v0= .pointer none/\H=[]
 |some y=> ∃(b0:Nat) (H0:Hp),lJ y b0 H0/\v0=(pp b0)/\H=List.flatten [H0]
def fG (x:bJ) (b:Nat) (H:Hp):Prop:= ∃(b0:Nat) (H0:Hp) (v0:Value) (Ho:Hp),gi x.nav b0 H0/\Bj x.eY v0 Ho/\H=List.flatten [(cl b 103 [(ii x.most),(pp b0),v0]),H0,Ho]
@[reducible] def Xz (o : Option bJ) (v : Value) (G : List Hp) : Prop := match o with
 |none=>v= .pointer none/\G=[]
 |some x=> ∃(b:Nat) (H:Hp),fG x b H/\v= .pointer (some ⟨b,0,none⟩)/\G=[H]
@[reducible] def Xq (o : Option bt) (v : Value) (G : List Hp) : Prop := match o with
 |none=>v= .pointer none/\G=[]
 |some x=> ∃(b:Nat) (H:Hp),iq x b H/\v= .pointer (some ⟨b,0,none⟩)/\G=[H]
@[reducible] def Xt (w0 : Nat) (o : Option dz) (v : Value) (G : List Hp) : Prop := match o with
 |none=>v= .pointer none/\G=[]
 |some x=> ∃(b:Nat) (H:Hp),l7 x b w0 H/\v= .pointer (some ⟨b,0,none⟩)/\G=[H]
@[reducible] def Xw (w0 : Nat) (w1 : Nat) (o : Option jN) (v : Value) (G : List Hp) : Prop := match o with
 |none=>v= .pointer none/\G=[]
 |some x=> ∃(b:Nat) (H:Hp),rZ x b w0 w1 H/\v= .pointer (some ⟨b,0,none⟩)/\G=[H]
@[reducible] def XA (o : Option eV) (v : Value) (G : List Hp) : Prop := match o with
 |none=>v= .pointer none/\G=[]
 |some x=> ∃(b:Nat) (a0:Nat) (H0:Hp) (a1:Option Addr) (n1:Nat) (H1:Hp),cP (Ky.int .i64 u3) (λx:aF=>Value.agg #[.int .i64 x.Id,.int .i64 x.Cell,.int .i64 x.Goal]) x.live a0 H0/\aj (Fl.int .i64) 3 x.order a1 n1 H1/\v= .pointer (some ⟨b,0,none⟩)/\G=[(cl b 178 [(ii x.most),(ii x.next),(.map (some a0)),(ll a1 x.order n1)]),H0,H1]
@[reducible] def Xp (o : Option fy) (v : Value) (G : List Hp) : Prop := match o with
 |none=>v= .pointer none/\G=[]
 |some x=> ∃(b:Nat) (a0:Option Addr) (n0:Nat) (H0:Hp),aj (Fl.int .u32) 65 x.words a0 n0 H0/\v= .pointer (some ⟨b,0,none⟩)/\G=[(cl b 221 [(ll a0 x.words n0),(ii x.count)]),H0]
@[reducible] def Xo (o : Option d_) (v : Value) (G : List Hp) : Prop := match o with
 |none=>v= .pointer none/\G=[]
 |some x=> ∃(b:Nat) (H:Hp),lJ x b H/\v= .pointer (some ⟨b,0,none⟩)/\G=[H]
def j_ (x:eB) (b:Nat) (H:Hp):Prop:=x_ VS [.int .i64 x.a_,.int .i64 x.len] x.buckets b 396 H/\List.length x.buckets=256
@[reducible] def Xv (o : Option eB) (v : Value) (G : List Hp) : Prop := match o with
 |none=>v= .pointer none/\G=[]
 |some x=> ∃(b:Nat) (H:Hp),j_ x b H/\v= .pointer (some ⟨b,0,none⟩)/\G=[H]
@[reducible] def Xr (o : Option eO) (v : Value) (G : List Hp) : Prop := match o with
 |none=>v= .pointer none/\G=[]
 |some x=> ∃(b:Nat) (a0:Option Addr) (n0:Nat) (H0:Hp),aj fB 359 x.l a0 n0 H0/\v= .pointer (some ⟨b,0,none⟩)/\G=[(cl b 357 [(ll a0 x.l n0)]),H0]
@[reducible] def Xx (o : Option ie) (v : Value) (G : List Hp) : Prop := match o with
 |none=>v= .pointer none/\G=[]
 |some x=> ∃(b:Nat) (a0:Option Addr) (n0:Nat) (H0:Hp),aj (Fl.int .i32) 21 x.aQ a0 n0 H0/\v= .pointer (some ⟨b,0,none⟩)/\G=[(cl b 235 [(ii x.goal),(ii x.bL),(ll a0 x.aQ n0)]),H0]
def XB (r:Option ie) (x:jN) (b:Nat) (l0:Nat) (l1:Nat) (u:Value) (H:Hp):Prop:=match r with
 |none=>u= .pointer none/\rZ x b l0 l1 H
 |some y=>x.kept=some y/\ ∃(b0:Nat) (a1:Option Addr) (n1:Nat) (H1:Hp),aj (Fl.int .i32) 21 y.aQ a1 n1 H1/\u= .pointer (some ⟨b0,0,none⟩)/\H=List.flatten [(cl b 233 [(pp l0),(pp l1),(pp b0),(uu x.count)]),List.flatten [(cl b0 235 [(ii y.goal),(ii y.bL),(ll a1 y.aQ n1)]),H1]]
abbrev QR:=CR Tryz.prog
abbrev QU:=CU Tryz.prog
end Go.Proofs.YthodkonhneebbaaGreatDoor
