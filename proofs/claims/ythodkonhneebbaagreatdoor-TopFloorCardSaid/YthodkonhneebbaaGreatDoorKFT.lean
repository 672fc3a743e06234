/- Part of the proof. No condition. -/
import Derived.Test.YthodkonhneebbaaGreatDoorProg
import Derived.KernelRfl
import Derived.Test.YthodkonhneebbaaGreatDoorKFErrs
import Derived.Test.YthodkonhneebbaaGreatDoorKFHz
namespace Go.Proofs.YthodkonhneebbaaGreatDoor
open Go.Hx
set_option maxRecDepth 100000
set_option linter.unusedSimpArgs false
set_option linter.unusedVariables false
structure sx where
 Kind:Int
 A:Int
 B:Int
instance :Inhabited sx:=⟨⟨default,default,default⟩⟩
def Gr:Fl sx:=⟨3,λx=>[.int .i64 x.Kind,.int .i64 x.A,.int .i64 x.B],λ_=>rfl,λ_ v h=>by
 simp only[List.mem_cons,List.not_mem_nil,or_false] at h;rcases h with rfl |rfl |rfl<;>rfl,Nat.le_of_ble_eq_true rfl⟩
structure dn where
 Kind:Int
 A:Int
 B:Int
 Map:(List Int)
instance :Inhabited dn:=⟨⟨default,default,default,default⟩⟩
def GW:Kd dn where
 size:=4
 own:=λx cs H=> ∃(a0:Option Addr) (n0:Nat) (H0:Hp),ak (Fl.int .u8) 5 x.Map a0 n0 H0/\cs=[.int .i64 x.Kind,.int .i64 x.A,.int .i64 x.B,.slice a0 (List.length x.Map) n0]/\H=List.flatten [H0]
 mO:=λx cs H=> ∃(a0:Option Addr) (n0:Nat),(aT (Fl.int .u8) x.Map a0 H/\List.length x.Map<=n0)/\cs=[.int .i64 x.Kind,.int .i64 x.A,.int .i64 x.B,.slice a0 (List.length x.Map) n0]
 len:=by
  rintro x cs H ⟨a0,n0,H0,s0,rfl,rfl⟩
  rfl
 plain:=by
  rintro x cs H ⟨a0,n0,H0,s0,rfl,rfl⟩ v hv;simp only[List.mem_cons,List.not_mem_nil,or_false] at hv;rcases hv with rfl |rfl |rfl |rfl<;>rfl
 r:=by
  rintro x cs H ⟨a0,n0,H0,s0,rfl,rfl⟩;exact⟨a0,n0,⟨s0.r.mono (λc hc=>gQ (HL:=[H0]) (j:=0) rfl hc),s0.bV⟩,rfl⟩
 mono:=by
  rintro x cs H H' ⟨a0,n0,⟨r0,c0⟩,rfl⟩ hs;exact⟨a0,n0,⟨r0.mono hs,c0⟩,rfl⟩
 pos:=by decide
structure aJ where
 W:Int
 H:Int
 C:(List Int)
instance :Inhabited aJ:=⟨⟨default,default,default⟩⟩
structure bn where
 key:(Int×Int)
 cJ:Int
 aZ:Int
instance :Inhabited bn:=⟨⟨default,default,default⟩⟩
def ky:Fl bn:=⟨4,λx=>[.int .i64 x.key.1,.int .i64 x.key.2,.int .i64 x.cJ,.int .i64 x.aZ],λ_=>rfl,λ_ v h=>by
 simp only[List.mem_cons,List.not_mem_nil,or_false] at h;rcases h with rfl |rfl |rfl |rfl<;>rfl,Nat.le_of_ble_eq_true rfl⟩
structure fP where
 k:Int
 au:(List bn)
 fD:(List ((Int×Int)×Int))
 cC:Int
 dg:Int
instance :Inhabited fP:=⟨⟨default,default,default,default,default⟩⟩
structure a_ where
 Cell:Int
 cL:Int
 Key:Int
instance :Inhabited a_:=⟨⟨default,default,default⟩⟩
def cI:Fl a_:=⟨3,λx=>[.int .i64 x.Cell,.int .i64 x.cL,.int .i64 x.Key],λ_=>rfl,λ_ v h=>by
 simp only[List.mem_cons,List.not_mem_nil,or_false] at h;rcases h with rfl |rfl |rfl<;>rfl,Nat.le_of_ble_eq_true rfl⟩
structure fZ where
 fb:(List Int)
 cA:(List Int)
instance :Inhabited fZ:=⟨⟨default,default⟩⟩
structure pX where
 version:Int
 sY:(List a_)
 field:fZ
instance :Inhabited pX:=⟨⟨default,default,default⟩⟩
structure gx where
 bC:Int
 bD:Int
 bA:Int
 bz:Int
 bJ:Int
 bF:Int
instance :Inhabited gx:=⟨⟨default,default,default,default,default,default⟩⟩
structure jo where
 keys:fP
 fields:(List pX)
 count:gx
instance :Inhabited jo:=⟨⟨default,default,default⟩⟩
def Ee:Kd pX where
 size:=4
 own:=λx cs H=> ∃(a0:Option Addr) (n0:Nat) (H0:Hp) (a1:Option Addr) (n1:Nat) (H1:Hp) (a2:Option Addr) (n2:Nat) (H2:Hp),ak cI 285 x.sY a0 n0 H0/\ak (Fl.int .i64) 3 x.field.fb a1 n1 H1/\ak (Fl.int .i64) 3 x.field.cA a2 n2 H2/\cs=[.int .i64 x.version,.slice a0 (List.length x.sY) n0,.slice a1 (List.length x.field.fb) n1,.slice a2 (List.length x.field.cA) n2]/\H=List.flatten [H0,H1,H2]
 mO:=λx cs H=> ∃(a0:Option Addr) (n0:Nat) (a1:Option Addr) (n1:Nat) (a2:Option Addr) (n2:Nat),(aT cI x.sY a0 H/\List.length x.sY<=n0)/\(aT (Fl.int .i64) x.field.fb a1 H/\List.length x.field.fb<=n1)/\(aT (Fl.int .i64) x.field.cA a2 H/\List.length x.field.cA<=n2)/\cs=[.int .i64 x.version,.slice a0 (List.length x.sY) n0,.slice a1 (List.length x.field.fb) n1,.slice a2 (List.length x.field.cA) n2]
 len:=by
  rintro x cs H ⟨a0,n0,H0,a1,n1,H1,a2,n2,H2,s0,s1,s2,rfl,rfl⟩
  rfl
 plain:=by
  rintro x cs H ⟨a0,n0,H0,a1,n1,H1,a2,n2,H2,s0,s1,s2,rfl,rfl⟩ v hv;simp only[List.mem_cons,List.not_mem_nil,or_false] at hv;rcases hv with rfl |rfl |rfl |rfl<;>rfl
 r:=by
  rintro x cs H ⟨a0,n0,H0,a1,n1,H1,a2,n2,H2,s0,s1,s2,rfl,rfl⟩;exact⟨a0,n0,a1,n1,a2,n2,⟨s0.r.mono (λc hc=>gQ (HL:=[H0,H1,H2]) (j:=0) rfl hc),s0.bV⟩,⟨s1.r.mono (λc hc=>gQ (HL:=[H0,H1,H2]) (j:=1) rfl hc),s1.bV⟩,⟨s2.r.mono (λc hc=>gQ (HL:=[H0,H1,H2]) (j:=2) rfl hc),s2.bV⟩,rfl⟩
 mono:=by
  rintro x cs H H' ⟨a0,n0,a1,n1,a2,n2,⟨r0,c0⟩,⟨r1,c1⟩,⟨r2,c2⟩,rfl⟩ hs;exact⟨a0,n0,a1,n1,a2,n2,⟨r0.mono hs,c0⟩,⟨r1.mono hs,c1⟩,⟨r2.mono hs,c2⟩,rfl⟩
 pos:=by decide
structure bw where
 m:aJ
 bK:Int
 pC:(List Int)
instance :Inhabited bw:=⟨⟨default,default,default⟩⟩
structure ph where
 version:Int
 nodes:(List Int)
 aR:(List Int)
instance :Inhabited ph:=⟨⟨default,default,default⟩⟩
structure dH where
 parts:(List ph)
 clean:Int
 count:Int
instance :Inhabited dH:=⟨⟨default,default,default⟩⟩
structure ic where
 goal:Int
 bK:Int
 aR:(List Int)
instance :Inhabited ic:=⟨⟨default,default,default⟩⟩
structure j6 where
 kept:(Option ic)
 count:Int
instance :Inhabited j6:=⟨⟨default,default⟩⟩
structure eI where
 aK:bw
 iz:dH
 iV:j6
instance :Inhabited eI:=⟨⟨default,default,default⟩⟩
structure bZ where
 core:(Option eI)
 fJ:jo
 aV:gx
instance :Inhabited bZ:=⟨⟨default,default,default⟩⟩
def Ot:Kd ph where
 size:=3
 own:=λx cs H=> ∃(a0:Option Addr) (n0:Nat) (H0:Hp) (a1:Option Addr) (n1:Nat) (H1:Hp),ak (Fl.int .i64) 3 x.nodes a0 n0 H0/\ak (Fl.int .i32) 21 x.aR a1 n1 H1/\cs=[.int .i64 x.version,.slice a0 (List.length x.nodes) n0,.slice a1 (List.length x.aR) n1]/\H=List.flatten [H0,H1]
 mO:=λx cs H=> ∃(a0:Option Addr) (n0:Nat) (a1:Option Addr) (n1:Nat),(aT (Fl.int .i64) x.nodes a0 H/\List.length x.nodes<=n0)/\(aT (Fl.int .i32) x.aR a1 H/\List.length x.aR<=n1)/\cs=[.int .i64 x.version,.slice a0 (List.length x.nodes) n0,.slice a1 (List.length x.aR) n1]
 len:=by
  rintro x cs H ⟨a0,n0,H0,a1,n1,H1,s0,s1,rfl,rfl⟩
  rfl
 plain:=by
  rintro x cs H ⟨a0,n0,H0,a1,n1,H1,s0,s1,rfl,rfl⟩ v hv;simp only[List.mem_cons,List.not_mem_nil,or_false] at hv;rcases hv with rfl |rfl |rfl<;>rfl
 r:=by
  rintro x cs H ⟨a0,n0,H0,a1,n1,H1,s0,s1,rfl,rfl⟩;exact⟨a0,n0,a1,n1,⟨s0.r.mono (λc hc=>gQ (HL:=[H0,H1]) (j:=0) rfl hc),s0.bV⟩,⟨s1.r.mono (λc hc=>gQ (HL:=[H0,H1]) (j:=1) rfl hc),s1.bV⟩,rfl⟩
 mono:=by
  rintro x cs H H' ⟨a0,n0,a1,n1,⟨r0,c0⟩,⟨r1,c1⟩,rfl⟩ hs;exact⟨a0,n0,a1,n1,⟨r0.mono hs,c0⟩,⟨r1.mono hs,c1⟩,rfl⟩
 pos:=by decide
structure aD where
 Id:Int
 Cell:Int
 Goal:Int
instance :Inhabited aD:=⟨⟨default,default,default⟩⟩
def gP:Fl aD:=⟨3,λx=>[.int .i64 x.Id,.int .i64 x.Cell,.int .i64 x.Goal],λ_=>rfl,λ_ v h=>by
 simp only[List.mem_cons,List.not_mem_nil,or_false] at h;rcases h with rfl |rfl |rfl<;>rfl,Nat.le_of_ble_eq_true rfl⟩
structure eW where
 most:Int
 next:Int
 live:(List (Int×aD))
 order:(List Int)
instance :Inhabited eW:=⟨⟨default,default,default,default⟩⟩
structure fk where
 words:(List Int)
 count:Int
instance :Inhabited fk:=⟨⟨default,default⟩⟩
structure dV where
 w:Int
 h:Int
 most:Int
 cU:eW
 floor:fk
instance :Inhabited dV:=⟨⟨default,default,default,default,default⟩⟩
structure bE where
 most:Int
 nav:bZ
 eH:(Option dV)
instance :Inhabited bE:=⟨⟨default,default,default⟩⟩
structure fe where
 Id:Int
 To:Int
instance :Inhabited fe:=⟨⟨default,default⟩⟩
def jw:Fl fe:=⟨2,λx=>[.int .i64 x.Id,.int .i64 x.To],λ_=>rfl,λ_ v h=>by
 simp only[List.mem_cons,List.not_mem_nil,or_false] at h;rcases h with rfl |rfl<;>rfl,Nat.le_of_ble_eq_true rfl⟩
structure iH where
 Code:Int
 D:Int
 cA:Int
 Id:Int
 fh:(List fe)
 ig:(List Int)
 Stats:gx
instance :Inhabited iH:=⟨⟨default,default,default,default,default,default,default⟩⟩
structure AD where
 a:Int
 b:Int
 load:Bool
instance :Inhabited AD:=⟨⟨default,default,default⟩⟩
structure eO where
 b:(List Int)
 ba:Int
instance :Inhabited eO:=⟨⟨default,default⟩⟩
structure jO where
 items:(List Int)
 gone:Int
instance :Inhabited jO:=⟨⟨default,default⟩⟩
def VK:Kd jO where
 size:=2
 own:=λx cs H=> ∃(a0:Option Addr) (n0:Nat) (H0:Hp),ak (Fl.int .i64) 3 x.items a0 n0 H0/\cs=[.slice a0 (List.length x.items) n0,.int .i64 x.gone]/\H=List.flatten [H0]
 mO:=λx cs H=> ∃(a0:Option Addr) (n0:Nat),(aT (Fl.int .i64) x.items a0 H/\List.length x.items<=n0)/\cs=[.slice a0 (List.length x.items) n0,.int .i64 x.gone]
 len:=by
  rintro x cs H ⟨a0,n0,H0,s0,rfl,rfl⟩
  rfl
 plain:=by
  rintro x cs H ⟨a0,n0,H0,s0,rfl,rfl⟩ v hv;simp only[List.mem_cons,List.not_mem_nil,or_false] at hv;rcases hv with rfl |rfl<;>rfl
 r:=by
  rintro x cs H ⟨a0,n0,H0,s0,rfl,rfl⟩;exact⟨a0,n0,⟨s0.r.mono (λc hc=>gQ (HL:=[H0]) (j:=0) rfl hc),s0.bV⟩,rfl⟩
 mono:=by
  rintro x cs H H' ⟨a0,n0,⟨r0,c0⟩,rfl⟩ hs;exact⟨a0,n0,⟨r0.mono hs,c0⟩,rfl⟩
 pos:=by decide
structure ez where
 ba:Int
 len:Int
 buckets:(List jO)
instance :Inhabited ez:=⟨⟨default,default,default⟩⟩
def Ex:List Int:=[0,1,2,2,3,3,3,3,4,4,4,4,4,4,4,4,5,5,5,5,5,5,5,5,5,5,5,5,5,5,5,5,6,6,6,6,6,6,6,6,6,6,6,6,6,6,6,6,6,6,6,6,6,6,6,6,6,6,6,6,6,6,6,6,7,7,7,7,7,7,7,7,7,7,7,7,7,7,7,7,7,7,7,7,7,7,7,7,7,7,7,7,7,7,7,7,7,7,7,7,7,7,7,7,7,7,7,7,7,7,7,7,7,7,7,7,7,7,7,7,7,7,7,7,7,7,7,7,8,8,8,8,8,8,8,8,8,8,8,8,8,8,8,8,8,8,8,8,8,8,8,8,8,8,8,8,8,8,8,8,8,8,8,8,8,8,8,8,8,8,8,8,8,8,8,8,8,8,8,8,8,8,8,8,8,8,8,8,8,8,8,8,8,8,8,8,8,8,8,8,8,8,8,8,8,8,8,8,8,8,8,8,8,8,8,8,8,8,8,8,8,8,8,8,8,8,8,8,8,8,8,8,8,8,8,8,8,8,8,8,8,8,8,8,8,8,8,8,8,8,8,8,8,8,8,8]
structure de where
 t:aJ
 wait:ez
 todo:(List a_)
 aR:(List Int)
instance :Inhabited de:=⟨⟨default,default,default,default⟩⟩
structure dG where
 key:Int
 item:Int
instance :Inhabited dG:=⟨⟨default,default⟩⟩
def fA:Fl dG:=⟨2,λx=>[.int .i64 x.key,.int .i64 x.item],λ_=>rfl,λ_ v h=>by
 simp only[List.mem_cons,List.not_mem_nil,or_false] at h;rcases h with rfl |rfl<;>rfl,Nat.le_of_ble_eq_true rfl⟩
structure eK where
 l:(List dG)
instance :Inhabited eK:=⟨⟨default⟩⟩
structure dU where
 To:Int
 kI:Int
instance :Inhabited dU:=⟨⟨default,default⟩⟩
def pe:Fl dU:=⟨2,λx=>[.int .i64 x.To,.int .i64 x.kI],λ_=>rfl,λ_ v h=>by
 simp only[List.mem_cons,List.not_mem_nil,or_false] at h;rcases h with rfl |rfl<;>rfl,Nat.le_of_ble_eq_true rfl⟩
structure CT where
 t:aJ
 l:(List a_)
 aR:(List Int)
instance :Inhabited CT:=⟨⟨default,default,default⟩⟩
structure b_ where
 Goal:Int
 eP:Int
 cX:(List Int)
instance :Inhabited b_:=⟨⟨default,default,default⟩⟩
def pq:Kd b_ where
 size:=3
 own:=λx cs H=> ∃(a0:Option Addr) (n0:Nat) (H0:Hp),ak (Fl.int .i64) 3 x.cX a0 n0 H0/\cs=[.int .i64 x.Goal,.int .i64 x.eP,.slice a0 (List.length x.cX) n0]/\H=List.flatten [H0]
 mO:=λx cs H=> ∃(a0:Option Addr) (n0:Nat),(aT (Fl.int .i64) x.cX a0 H/\List.length x.cX<=n0)/\cs=[.int .i64 x.Goal,.int .i64 x.eP,.slice a0 (List.length x.cX) n0]
 len:=by
  rintro x cs H ⟨a0,n0,H0,s0,rfl,rfl⟩
  rfl
 plain:=by
  rintro x cs H ⟨a0,n0,H0,s0,rfl,rfl⟩ v hv;simp only[List.mem_cons,List.not_mem_nil,or_false] at hv;rcases hv with rfl |rfl |rfl<;>rfl
 r:=by
  rintro x cs H ⟨a0,n0,H0,s0,rfl,rfl⟩;exact⟨a0,n0,⟨s0.r.mono (λc hc=>gQ (HL:=[H0]) (j:=0) rfl hc),s0.bV⟩,rfl⟩
 mono:=by
  rintro x cs H H' ⟨a0,n0,⟨r0,c0⟩,rfl⟩ hs;exact⟨a0,n0,⟨r0.mono hs,c0⟩,rfl⟩
 pos:=by decide
structure mi where
 w:Int
 h:Int
 jS:(List (Int×Bool))
 kz:(List fe)
 gone:(List Int)
instance :Inhabited mi:=⟨⟨default,default,default,default,default⟩⟩
def fj (n : String) (t o b : Nat) : Field := ⟨n, t, o, false, "", "", b⟩
def bW (n : String) (t o b : Nat) (p : String) : Field := ⟨n, t, o, false, "", p, b⟩
theorem aI {P : Program} {f : FuncId} {fn : Func} (h : P.funcs[f]? = some fn) (a : (fn.name == "runtime.NumGoroutine") = false := by kernel_rfl) (b : fn.body.isNone = false := by kernel_rfl) : Has P f := ⟨⟨fn, h, a, b⟩⟩
theorem all_map {α β:Type} {g:Nat->β} {k:α->β}: ∀{l:List (Nat×α)},l.map (λe=>g e.1)=l.map (λe=>k e.2)->EI (λt d=>g t=k d) l
 |[],_=>trivial
 |_::_,h=>⟨(List.cons.inj h).1,all_map (List.cons.inj h).2⟩
def Ty.om {P:Program} (us:List (Nat×TypeDesc)) (is:List (Nat×(Nat×Nat×Value))) (hu:us.map (λe=>P.underlying e.1)=us.map (λe=>some e.2):=by kernel_rfl)
 (hi:is.map (λe=>(P.info? e.1).map λi=>(i.size,i.bytes,i.zero))=is.map (λe=>some (e.2.1,e.2.2.1,some e.2.2.2)):=by kernel_rfl):Ty P:=
 Ty.of us is (all_map hu) (all_map (k:=λd:Nat×Nat×Value=>some (d.1,d.2.1,some d.2.2)) hi)
theorem u3:Tryz.prog.underlying 3=some (.int .i64):=ay
theorem lG:Tryz.prog.underlying 76=some (.array 2 3):=ay
noncomputable def T : Ty Tryz.prog := Ty.om [(2, .int .i64), (3, .int .i64), (4, .bool), (5, .int .u8), (9, .string), (21, .int .i32), (22, .slice 5), (23, .slice 97), (24, .slice 3), (25, .pointer 103), (30, .struct #[(fj "W" 3 0 0), (fj "H" 3 1 8), (fj "C" 22 2 16)]), (40, .slice 55), (43, .slice 4), (44, .int .u64), (46, .struct #[(fj "Rebuilds" 44 0 0), (fj "Searches" 44 1 8), (fj "Builds" 44 2 16), (fj "Hits" 44 3 24), (fj "Stale" 44 4 32), (fj "Evicts" 44 5 40)]), (48, .slice 67), (50, .slice 94), (52, .struct #[(fj "Code" 3 0 0), (fj "D" 3 1 8), (fj "Dir" 3 2 16), (fj "Id" 3 3 24), (fj "Moves" 50 4 32), (fj "Gone" 24 5 56), (fj "Stats" 46 6 80)]), (55, .struct #[(fj "Kind" 3 0 0), (fj "A" 3 1 8), (fj "B" 3 2 16), (fj "Map" 22 3 24)]), (59, .slice 120), (63, .slice 65), (65, .int .u32), (67, .struct #[(fj "Id" 3 0 0), (fj "Cell" 3 1 8), (fj "Goal" 3 2 16)]), (76, .array 2 3), (79, .struct #[(fj "Dist" 24 0 0), (fj "Dir" 24 1 24)]), (88, .pointer 135), (94, .struct #[(fj "Id" 3 0 0), (fj "To" 3 1 8)]), (97, .struct #[(fj "Kind" 3 0 0), (fj "A" 3 1 8), (fj "B" 3 2 16)]), (101, .pointer 146), (103, .struct #[(bW "most" 3 0 0 "herdsman/svc"), (bW "nav" 88 1 8 "herdsman/svc"), (bW "crowd" 101 2 16 "herdsman/svc")]), (106, .interface #[("Error", 415)]), (110, .pointer 112), (112, .struct #[(bW "kind" 3 0 0 "herdsman/svc"), (bW "of" 106 1 8 "herdsman/svc")]), (117, .map 3 59), (118, .map 76 3), (120, .struct #[(fj "Goal" 3 0 0), (fj "Sector" 3 1 8), (fj "Ids" 24 2 16)]), (122, .map 3 4), (123, .array 6 44), (130, .pointer 167), (131, .pointer 213), (132, .pointer 233), (133, .pointer 173), (135, .struct #[(bW "grid" 130 0 0 "herdsman/nav"), (bW "mesh" 131 1 8 "herdsman/nav"), (bW "finder" 132 2 16 "herdsman/nav"), (bW "shelf" 133 3 24 "herdsman/nav"), (bW "past" 46 4 32 "herdsman/nav")]), (136, .int .u64), (139, .struct #[(fj "W" 3 0 0), (fj "H" 3 1 8), (fj "C" 22 2 16)]), (143, .pointer 178), (144, .pointer 221), (146, .struct #[(bW "w" 3 0 0 "herdsman/crowd"), (bW "h" 3 1 8 "herdsman/crowd"), (bW "most" 3 2 16 "herdsman/crowd"), (bW "units" 143 3 24 "herdsman/crowd"), (bW "floor" 144 4 32 "herdsman/crowd")]), (148, .int .i64), (160, .pointer 148), (165, .slice 2), (167, .struct #[(bW "m" 30 0 0 "herdsman/grid"), (bW "epoch" 2 3 40 "herdsman/grid"), (bW "versions" 165 4 48 "herdsman/grid")]), (169, .pointer 238), (171, .slice 291), (173, .struct #[(bW "keys" 169 0 0 "herdsman/shelf"), (bW "fields" 171 1 8 "herdsman/shelf"), (bW "count" 46 2 32 "herdsman/shelf")]), (176, .map 3 67), (178, .struct #[(bW "most" 3 0 0 "herdsman/units"), (bW "next" 3 1 8 "herdsman/units"), (bW "live" 176 2 16 "herdsman/units"), (bW "order" 24 3 24 "herdsman/units")]), (180, .struct #[(bW "a" 3 0 0 "herdsman/op"), (bW "b" 3 1 8 "herdsman/op"), (bW "load" 4 2 16 "herdsman/op")]), (211, .slice 217), (213, .struct #[(bW "g" 130 0 0 "herdsman/mesh"), (bW "parts" 211 1 8 "herdsman/mesh"), (bW "clean" 2 2 32 "herdsman/mesh"), (bW "count" 44 3 40 "herdsman/mesh")]), (215, .slice 21), (217, .struct #[(bW "version" 2 0 0 "herdsman/mesh"), (bW "nodes" 24 1 8 "herdsman/mesh"), (bW "dist" 215 2 32 "herdsman/mesh")]), (221, .struct #[(bW "words" 63 0 0 "herdsman/floor"), (bW "count" 3 1 24 "herdsman/floor")]), (222, .pointer 224), (224, .struct #[(bW "goal" 3 0 0 "herdsman/nav"), (bW "of" 106 1 8 "herdsman/nav")]), (227, .slice 285), (229, .pointer 235), (233, .struct #[(bW "m" 131 0 0 "herdsman/route"), (bW "g" 130 1 8 "herdsman/route"), (bW "kept" 229 2 16 "herdsman/route"), (bW "count" 44 3 24 "herdsman/route")]), (235, .struct #[(bW "goal" 3 0 0 "herdsman/route"), (bW "epoch" 2 1 8 "herdsman/route"), (bW "dist" 215 2 16 "herdsman/route")]), (236, .slice 278), (238, .struct #[(bW "k" 3 0 0 "herdsman/lru"), (bW "seats" 236 1 8 "herdsman/lru"), (bW "slots" 118 2 32 "herdsman/lru"), (bW "newest" 3 3 40 "herdsman/lru"), (bW "oldest" 3 4 48 "herdsman/lru")]), (243, .int .i64), (244, .pointer 243), (258, .map 3 3), (278, .struct #[(bW "key" 76 0 0 "herdsman/lru"), (bW "newer" 3 2 16 "herdsman/lru"), (bW "old" 3 3 24 "herdsman/lru")]), (280, .slice 283), (283, .struct #[(fj "To" 3 0 0), (fj "Cost" 3 1 8)]), (285, .struct #[(fj "Cell" 3 0 0), (fj "Side" 3 1 8), (fj "Key" 3 2 16)]), (291, .struct #[(bW "version" 2 0 0 "herdsman/shelf"), (bW "seeds" 227 1 8 "herdsman/shelf"), (bW "field" 79 2 32 "herdsman/shelf")]), (301, .pointer 303), (303, .struct #[(bW "sector" 3 0 0 "herdsman/atlas"), (bW "of" 106 1 8 "herdsman/atlas")]), (309, .struct #[(bW "w" 3 0 0 "herdsman/march"), (bW "h" 3 1 8 "herdsman/march"), (bW "stand" 122 2 16 "herdsman/march"), (bW "moves" 50 3 24 "herdsman/march"), (bW "gone" 24 4 48 "herdsman/march")]), (314, .array 4 3), (320, .pointer 357), (337, .struct #[(bW "t" 139 0 0 "herdsman/steer"), (bW "l" 227 3 40 "herdsman/steer"), (bW "dist" 24 4 64 "herdsman/steer")]), (340, .struct #[(bW "b" 22 0 0 "herdsman/pack"), (bW "at" 3 1 24 "herdsman/pack")]), (343, .pointer 346), (344, .pointer 343), (346, .struct #[(bW "at" 3 0 0 "herdsman/pack"), (bW "code" 3 1 8 "herdsman/pack"), (bW "of" 106 2 16 "herdsman/pack")]), (355, .slice 359), (357, .struct #[(bW "l" 355 0 0 "herdsman/heap")]), (359, .struct #[(bW "key" 3 0 0 "herdsman/heap"), (bW "item" 3 1 8 "herdsman/heap")]), (360, .pointer 217), (365, .pointer 396), (369, .struct #[(bW "t" 139 0 0 "herdsman/sweep"), (bW "wait" 365 3 40 "herdsman/sweep"), (bW "todo" 227 4 48 "herdsman/sweep"), (bW "dist" 24 5 72 "herdsman/sweep")]), (393, .struct #[(bW "items" 24 0 0 "herdsman/ring"), (bW "gone" 3 1 24 "herdsman/ring")]), (394, .array 256 393), (396, .struct #[(bW "at" 3 0 0 "herdsman/ring"), (bW "len" 3 1 8 "herdsman/ring"), (bW "buckets" 394 2 16 "herdsman/ring")])]
 [(2,(1,8,(ii 0))),(3,(1,8,(ii 0))),(4,(1,1,(bb false))),(5,(1,1,(.int .u8 0))),(21,(1,4,(.int .i32 0))),(22,(1,24,nl)),(24,(1,24,nl)),(30,(3,40,(.agg #[(ii 0),(ii 0),nl]))),(44,(1,8,(uu 0))),(46,(6,48,(.agg #[(uu 0),(uu 0),(uu 0),(uu 0),(uu 0),(uu 0)]))),(50,(1,24,nl)),(52,(12,128,(.agg #[(ii 0),(ii 0),(ii 0),(ii 0),nl,nl,(uu 0),(uu 0),(uu 0),(uu 0),(uu 0),(uu 0)]))),(55,(4,48,(.agg #[(ii 0),(ii 0),(ii 0),nl]))),(59,(1,24,nl)),(63,(1,24,nl)),(65,(1,4,(.int .u32 0))),(67,(3,24,(.agg #[(ii 0),(ii 0),(ii 0)]))),(76,(2,16,(.agg #[(ii 0),(ii 0)]))),(79,(2,48,(.agg #[nl,nl]))),(88,(1,8,(.pointer none))),(94,(2,16,(.agg #[(ii 0),(ii 0)]))),(97,(3,24,(.agg #[(ii 0),(ii 0),(ii 0)]))),(101,(1,8,(.pointer none))),(103,(3,24,(.agg #[(ii 0),(.pointer none),(.pointer none)]))),(106,(1,16,.nilIface)),(112,(2,24,(.agg #[(ii 0),.nilIface]))),(118,(1,8,(.map none))),(120,(3,40,(.agg #[(ii 0),(ii 0),nl]))),(122,(1,8,(.map none))),(123,(6,48,(.agg #[(uu 0),(uu 0),(uu 0),(uu 0),(uu 0),(uu 0)]))),(130,(1,8,(.pointer none))),(131,(1,8,(.pointer none))),(132,(1,8,(.pointer none))),(133,(1,8,(.pointer none))),(135,(10,80,(.agg #[(.pointer none),(.pointer none),(.pointer none),(.pointer none),(uu 0),(uu 0),(uu 0),(uu 0),(uu 0),(uu 0)]))),(139,(3,40,(.agg #[(ii 0),(ii 0),nl]))),(143,(1,8,(.pointer none))),(144,(1,8,(.pointer none))),(146,(5,40,(.agg #[(ii 0),(ii 0),(ii 0),(.pointer none),(.pointer none)]))),(148,(1,8,(ii 0))),(165,(1,24,nl)),(167,(5,72,(.agg #[(ii 0),(ii 0),nl,(ii 0),nl]))),(169,(1,8,(.pointer none))),(171,(1,24,nl)),(173,(8,80,(.agg #[(.pointer none),nl,(uu 0),(uu 0),(uu 0),(uu 0),(uu 0),(uu 0)]))),(176,(1,8,(.map none))),(178,(4,48,(.agg #[(ii 0),(ii 0),(.map none),nl]))),(180,(3,24,(.agg #[(ii 0),(ii 0),(bb false)]))),(211,(1,24,nl)),(213,(4,48,(.agg #[(.pointer none),nl,(ii 0),(uu 0)]))),(215,(1,24,nl)),(217,(3,56,(.agg #[(ii 0),nl,nl]))),(221,(2,32,(.agg #[nl,(ii 0)]))),(224,(2,24,(.agg #[(ii 0),.nilIface]))),(227,(1,24,nl)),(229,(1,8,(.pointer none))),(233,(4,32,(.agg #[(.pointer none),(.pointer none),(.pointer none),(uu 0)]))),(235,(3,40,(.agg #[(ii 0),(ii 0),nl]))),(236,(1,24,nl)),(238,(5,56,(.agg #[(ii 0),nl,(.map none),(ii 0),(ii 0)]))),(243,(1,8,(ii 0))),(278,(4,32,(.agg #[(ii 0),(ii 0),(ii 0),(ii 0)]))),(283,(2,16,(.agg #[(ii 0),(ii 0)]))),(285,(3,24,(.agg #[(ii 0),(ii 0),(ii 0)]))),(291,(4,80,(.agg #[(ii 0),nl,nl,nl]))),(303,(2,24,(.agg #[(ii 0),.nilIface]))),(309,(5,72,(.agg #[(ii 0),(ii 0),(.map none),nl,nl]))),(314,(4,32,(.agg #[(ii 0),(ii 0),(ii 0),(ii 0)]))),(337,(5,88,(.agg #[(ii 0),(ii 0),nl,nl,nl]))),(340,(2,32,(.agg #[nl,(ii 0)]))),(343,(1,8,(.pointer none))),(346,(3,32,(.agg #[(ii 0),(ii 0),.nilIface]))),(355,(1,24,nl)),(357,(1,24,(.agg #[nl]))),(359,(2,16,(.agg #[(ii 0),(ii 0)]))),(365,(1,8,(.pointer none))),(369,(6,96,(.agg #[(ii 0),(ii 0),nl,(.pointer none),nl,nl]))),(393,(2,32,(.agg #[nl,(ii 0)]))),(394,(512,8192,(.agg #[nl,(ii 0),nl,(ii 0),nl,(ii 0),nl,(ii 0),nl,(ii 0),nl,(ii 0),nl,(ii 0),nl,(ii 0),nl,(ii 0),nl,(ii 0),nl,(ii 0),nl,(ii 0),nl,(ii 0),nl,(ii 0),nl,(ii 0),nl,(ii 0),nl,(ii 0),nl,(ii 0),nl,(ii 0),nl,(ii 0),nl,(ii 0),nl,(ii 0),nl,(ii 0),nl,(ii 0),nl,(ii 0),nl,(ii 0),nl,(ii 0),nl,(ii 0),nl,(ii 0),nl,(ii 0),nl,(ii 0),nl,(ii 0),nl,(ii 0),nl,(ii 0),nl,(ii 0),nl,(ii 0),nl,(ii 0),nl,(ii 0),nl,(ii 0),nl,(ii 0),nl,(ii 0),nl,(ii 0),nl,(ii 0),nl,(ii 0),nl,(ii 0),nl,(ii 0),nl,(ii 0),nl,(ii 0),nl,(ii 0),nl,(ii 0),nl,(ii 0),nl,(ii 0),nl,(ii 0),nl,(ii 0),nl,(ii 0),nl,(ii 0),nl,(ii 0),nl,(ii 0),nl,(ii 0),nl,(ii 0),nl,(ii 0),nl,(ii 0),nl,(ii 0),nl,(ii 0),nl,(ii 0),nl,(ii 0),nl,(ii 0),nl,(ii 0),nl,(ii 0),nl,(ii 0),nl,(ii 0),nl,(ii 0),nl,(ii 0),nl,(ii 0),nl,(ii 0),nl,(ii 0),nl,(ii 0),nl,(ii 0),nl,(ii 0),nl,(ii 0),nl,(ii 0),nl,(ii 0),nl,(ii 0),nl,(ii 0),nl,(ii 0),nl,(ii 0),nl,(ii 0),nl,(ii 0),nl,(ii 0),nl,(ii 0),nl,(ii 0),nl,(ii 0),nl,(ii 0),nl,(ii 0),nl,(ii 0),nl,(ii 0),nl,(ii 0),nl,(ii 0),nl,(ii 0),nl,(ii 0),nl,(ii 0),nl,(ii 0),nl,(ii 0),nl,(ii 0),nl,(ii 0),nl,(ii 0),nl,(ii 0),nl,(ii 0),nl,(ii 0),nl,(ii 0),nl,(ii 0),nl,(ii 0),nl,(ii 0),nl,(ii 0),nl,(ii 0),nl,(ii 0),nl,(ii 0),nl,(ii 0),nl,(ii 0),nl,(ii 0),nl,(ii 0),nl,(ii 0),nl,(ii 0),nl,(ii 0),nl,(ii 0),nl,(ii 0),nl,(ii 0),nl,(ii 0),nl,(ii 0),nl,(ii 0),nl,(ii 0),nl,(ii 0),nl,(ii 0),nl,(ii 0),nl,(ii 0),nl,(ii 0),nl,(ii 0),nl,(ii 0),nl,(ii 0),nl,(ii 0),nl,(ii 0),nl,(ii 0),nl,(ii 0),nl,(ii 0),nl,(ii 0),nl,(ii 0),nl,(ii 0),nl,(ii 0),nl,(ii 0),nl,(ii 0),nl,(ii 0),nl,(ii 0),nl,(ii 0),nl,(ii 0),nl,(ii 0),nl,(ii 0),nl,(ii 0),nl,(ii 0),nl,(ii 0),nl,(ii 0),nl,(ii 0),nl,(ii 0),nl,(ii 0),nl,(ii 0),nl,(ii 0),nl,(ii 0),nl,(ii 0),nl,(ii 0),nl,(ii 0),nl,(ii 0),nl,(ii 0),nl,(ii 0),nl,(ii 0),nl,(ii 0),nl,(ii 0),nl,(ii 0),nl,(ii 0),nl,(ii 0),nl,(ii 0),nl,(ii 0),nl,(ii 0),nl,(ii 0),nl,(ii 0),nl,(ii 0),nl,(ii 0),nl,(ii 0),nl,(ii 0),nl,(ii 0),nl,(ii 0),nl,(ii 0),nl,(ii 0),nl,(ii 0),nl,(ii 0),nl,(ii 0),nl,(ii 0),nl,(ii 0),nl,(ii 0),nl,(ii 0),nl,(ii 0),nl,(ii 0),nl,(ii 0),nl,(ii 0),nl,(ii 0),nl,(ii 0),nl,(ii 0),nl,(ii 0),nl,(ii 0),nl,(ii 0),nl,(ii 0),nl,(ii 0),nl,(ii 0),nl,(ii 0),nl,(ii 0),nl,(ii 0),nl,(ii 0),nl,(ii 0),nl,(ii 0),nl,(ii 0),nl,(ii 0),nl,(ii 0),nl,(ii 0),nl,(ii 0),nl,(ii 0),nl,(ii 0),nl,(ii 0),nl,(ii 0),nl,(ii 0),nl,(ii 0),nl,(ii 0),nl,(ii 0),nl,(ii 0),nl,(ii 0),nl,(ii 0),nl,(ii 0),nl,(ii 0),nl,(ii 0),nl,(ii 0),nl,(ii 0),nl,(ii 0),nl,(ii 0),nl,(ii 0),nl,(ii 0),nl,(ii 0),nl,(ii 0),nl,(ii 0),nl,(ii 0),nl,(ii 0),nl,(ii 0),nl,(ii 0),nl,(ii 0),nl,(ii 0),nl,(ii 0),nl,(ii 0),nl,(ii 0),nl,(ii 0),nl,(ii 0)]))),(396,(514,8208,(.agg #[(ii 0),(ii 0),nl,(ii 0),nl,(ii 0),nl,(ii 0),nl,(ii 0),nl,(ii 0),nl,(ii 0),nl,(ii 0),nl,(ii 0),nl,(ii 0),nl,(ii 0),nl,(ii 0),nl,(ii 0),nl,(ii 0),nl,(ii 0),nl,(ii 0),nl,(ii 0),nl,(ii 0),nl,(ii 0),nl,(ii 0),nl,(ii 0),nl,(ii 0),nl,(ii 0),nl,(ii 0),nl,(ii 0),nl,(ii 0),nl,(ii 0),nl,(ii 0),nl,(ii 0),nl,(ii 0),nl,(ii 0),nl,(ii 0),nl,(ii 0),nl,(ii 0),nl,(ii 0),nl,(ii 0),nl,(ii 0),nl,(ii 0),nl,(ii 0),nl,(ii 0),nl,(ii 0),nl,(ii 0),nl,(ii 0),nl,(ii 0),nl,(ii 0),nl,(ii 0),nl,(ii 0),nl,(ii 0),nl,(ii 0),nl,(ii 0),nl,(ii 0),nl,(ii 0),nl,(ii 0),nl,(ii 0),nl,(ii 0),nl,(ii 0),nl,(ii 0),nl,(ii 0),nl,(ii 0),nl,(ii 0),nl,(ii 0),nl,(ii 0),nl,(ii 0),nl,(ii 0),nl,(ii 0),nl,(ii 0),nl,(ii 0),nl,(ii 0),nl,(ii 0),nl,(ii 0),nl,(ii 0),nl,(ii 0),nl,(ii 0),nl,(ii 0),nl,(ii 0),nl,(ii 0),nl,(ii 0),nl,(ii 0),nl,(ii 0),nl,(ii 0),nl,(ii 0),nl,(ii 0),nl,(ii 0),nl,(ii 0),nl,(ii 0),nl,(ii 0),nl,(ii 0),nl,(ii 0),nl,(ii 0),nl,(ii 0),nl,(ii 0),nl,(ii 0),nl,(ii 0),nl,(ii 0),nl,(ii 0),nl,(ii 0),nl,(ii 0),nl,(ii 0),nl,(ii 0),nl,(ii 0),nl,(ii 0),nl,(ii 0),nl,(ii 0),nl,(ii 0),nl,(ii 0),nl,(ii 0),nl,(ii 0),nl,(ii 0),nl,(ii 0),nl,(ii 0),nl,(ii 0),nl,(ii 0),nl,(ii 0),nl,(ii 0),nl,(ii 0),nl,(ii 0),nl,(ii 0),nl,(ii 0),nl,(ii 0),nl,(ii 0),nl,(ii 0),nl,(ii 0),nl,(ii 0),nl,(ii 0),nl,(ii 0),nl,(ii 0),nl,(ii 0),nl,(ii 0),nl,(ii 0),nl,(ii 0),nl,(ii 0),nl,(ii 0),nl,(ii 0),nl,(ii 0),nl,(ii 0),nl,(ii 0),nl,(ii 0),nl,(ii 0),nl,(ii 0),nl,(ii 0),nl,(ii 0),nl,(ii 0),nl,(ii 0),nl,(ii 0),nl,(ii 0),nl,(ii 0),nl,(ii 0),nl,(ii 0),nl,(ii 0),nl,(ii 0),nl,(ii 0),nl,(ii 0),nl,(ii 0),nl,(ii 0),nl,(ii 0),nl,(ii 0),nl,(ii 0),nl,(ii 0),nl,(ii 0),nl,(ii 0),nl,(ii 0),nl,(ii 0),nl,(ii 0),nl,(ii 0),nl,(ii 0),nl,(ii 0),nl,(ii 0),nl,(ii 0),nl,(ii 0),nl,(ii 0),nl,(ii 0),nl,(ii 0),nl,(ii 0),nl,(ii 0),nl,(ii 0),nl,(ii 0),nl,(ii 0),nl,(ii 0),nl,(ii 0),nl,(ii 0),nl,(ii 0),nl,(ii 0),nl,(ii 0),nl,(ii 0),nl,(ii 0),nl,(ii 0),nl,(ii 0),nl,(ii 0),nl,(ii 0),nl,(ii 0),nl,(ii 0),nl,(ii 0),nl,(ii 0),nl,(ii 0),nl,(ii 0),nl,(ii 0),nl,(ii 0),nl,(ii 0),nl,(ii 0),nl,(ii 0),nl,(ii 0),nl,(ii 0),nl,(ii 0),nl,(ii 0),nl,(ii 0),nl,(ii 0),nl,(ii 0),nl,(ii 0),nl,(ii 0),nl,(ii 0),nl,(ii 0),nl,(ii 0),nl,(ii 0),nl,(ii 0),nl,(ii 0),nl,(ii 0),nl,(ii 0),nl,(ii 0),nl,(ii 0),nl,(ii 0),nl,(ii 0),nl,(ii 0),nl,(ii 0),nl,(ii 0),nl,(ii 0),nl,(ii 0),nl,(ii 0),nl,(ii 0),nl,(ii 0),nl,(ii 0),nl,(ii 0),nl,(ii 0),nl,(ii 0),nl,(ii 0),nl,(ii 0),nl,(ii 0),nl,(ii 0),nl,(ii 0),nl,(ii 0),nl,(ii 0),nl,(ii 0),nl,(ii 0),nl,(ii 0),nl,(ii 0),nl,(ii 0),nl,(ii 0),nl,(ii 0),nl,(ii 0),nl,(ii 0),nl,(ii 0),nl,(ii 0),nl,(ii 0),nl,(ii 0),nl,(ii 0),nl,(ii 0),nl,(ii 0),nl,(ii 0)])))]
abbrev aH:=Has Tryz.prog
theorem lB:aH 12:=aI Tryz.func12
theorem abW:aH 13:=aI Tryz.func13
theorem abY:aH 14:=aI Tryz.func14
theorem acf:aH 18:=aI Tryz.func18
theorem acs:aH 20:=aI Tryz.func20
theorem SD:aH 21:=aI Tryz.func21
theorem SG:aH 22:=aI Tryz.func22
theorem SJ:aH 23:=aI Tryz.func23
theorem FP:aH 24:=aI Tryz.func24
theorem SN:aH 25:=aI Tryz.func25
theorem ru:aH 26:=aI Tryz.func26
theorem ac_:aH 28:=aI Tryz.func28
theorem adf:aH 29:=aI Tryz.func29
theorem adp:aH 31:=aI Tryz.func31
theorem SY:aH 42:=aI Tryz.func42
theorem adq:aH 43:=aI Tryz.func43
theorem M1:aH 45:=aI Tryz.func45
theorem adr:aH 46:=aI Tryz.func46
theorem Jl:aH 47:=aI Tryz.func47
theorem SZ:aH 48:=aI Tryz.func48
theorem M3:aH 49:=aI Tryz.func49
theorem ads:aH 50:=aI Tryz.func50
theorem adt:aH 51:=aI Tryz.func51
theorem adu:aH 52:=aI Tryz.func52
theorem Jm:aH 53:=aI Tryz.func53
theorem Jn:aH 54:=aI Tryz.func54
theorem adv:aH 55:=aI Tryz.func55
theorem adw:aH 56:=aI Tryz.func56
theorem M4:aH 57:=aI Tryz.func57
theorem M5:aH 58:=aI Tryz.func58
theorem FR:aH 59:=aI Tryz.func59
theorem S0:aH 61:=aI Tryz.func61
theorem pQ:aH 62:=aI Tryz.func62
theorem S3:aH 63:=aI Tryz.func63
theorem adx:aH 67:=aI Tryz.func67
theorem S4:aH 68:=aI Tryz.func68
theorem S5:aH 70:=aI Tryz.func70
theorem ady:aH 71:=aI Tryz.func71
theorem S6:aH 74:=aI Tryz.func74
theorem adz:aH 75:=aI Tryz.func75
theorem adA:aH 76:=aI Tryz.func76
theorem adB:aH 77:=aI Tryz.func77
theorem M6:aH 78:=aI Tryz.func78
theorem S7:aH 79:=aI Tryz.func79
theorem adC:aH 80:=aI Tryz.func80
theorem adD:aH 81:=aI Tryz.func81
theorem adE:aH 82:=aI Tryz.func82
theorem adF:aH 83:=aI Tryz.func83
theorem adG:aH 84:=aI Tryz.func84
theorem adH:aH 85:=aI Tryz.func85
theorem adI:aH 86:=aI Tryz.func86
theorem adJ:aH 87:=aI Tryz.func87
theorem u5:aH 88:=aI Tryz.func88
theorem S8:aH 89:=aI Tryz.func89
theorem S9:aH 90:=aI Tryz.func90
theorem adK:aH 91:=aI Tryz.func91
theorem adL:aH 92:=aI Tryz.func92
theorem Jo:aH 93:=aI Tryz.func93
theorem Jp:aH 94:=aI Tryz.func94
theorem M7:aH 95:=aI Tryz.func95
theorem BQ:aH 96:=aI Tryz.func96
theorem adM:aH 97:=aI Tryz.func97
theorem adN:aH 98:=aI Tryz.func98
theorem R_:aH 100:=aI Tryz.func100
theorem Sa:aH 101:=aI Tryz.func101
theorem MJ:aH 103:=aI Tryz.func103
theorem abJ:aH 104:=aI Tryz.func104
theorem abK:aH 105:=aI Tryz.func105
theorem Jc:aH 106:=aI Tryz.func106
theorem Sb:aH 107:=aI Tryz.func107
theorem Sc:aH 108:=aI Tryz.func108
theorem Sd:aH 109:=aI Tryz.func109
theorem abL:aH 110:=aI Tryz.func110
theorem MK:aH 111:=aI Tryz.func111
theorem ML:aH 112:=aI Tryz.func112
theorem Jd:aH 113:=aI Tryz.func113
theorem abM:aH 114:=aI Tryz.func114
theorem abN:aH 115:=aI Tryz.func115
theorem abO:aH 116:=aI Tryz.func116
theorem MM:aH 117:=aI Tryz.func117
theorem Se:aH 118:=aI Tryz.func118
theorem abP:aH 119:=aI Tryz.func119
theorem abQ:aH 120:=aI Tryz.func120
theorem abR:aH 121:=aI Tryz.func121
theorem BN:aH 122:=aI Tryz.func122
theorem MN:aH 123:=aI Tryz.func123
theorem Sf:aH 124:=aI Tryz.func124
theorem MO:aH 125:=aI Tryz.func125
theorem abS:aH 126:=aI Tryz.func126
theorem abT:aH 127:=aI Tryz.func127
theorem abU:aH 128:=aI Tryz.func128
theorem abV:aH 129:=aI Tryz.func129
theorem BO:aH 136:=aI Tryz.func136
theorem BP:aH 137:=aI Tryz.func137
theorem abX:aH 138:=aI Tryz.func138
theorem Sg:aH 140:=aI Tryz.func140
theorem uZ:aH 141:=aI Tryz.func141
theorem Sh:aH 142:=aI Tryz.func142
theorem abZ:aH 143:=aI Tryz.func143
theorem DG:aH 144:=aI Tryz.func144
theorem Si:aH 145:=aI Tryz.func145
theorem ab0:aH 146:=aI Tryz.func146
theorem ab1:aH 147:=aI Tryz.func147
theorem Sj:aH 148:=aI Tryz.func148
theorem Sk:aH 149:=aI Tryz.func149
theorem Sl:aH 150:=aI Tryz.func150
theorem Sm:aH 151:=aI Tryz.func151
theorem ab2:aH 152:=aI Tryz.func152
theorem Sn:aH 153:=aI Tryz.func153
theorem FL:aH 154:=aI Tryz.func154
theorem ab3:aH 155:=aI Tryz.func155
theorem ab4:aH 156:=aI Tryz.func156
theorem Sp:aH 157:=aI Tryz.func157
theorem MP:aH 158:=aI Tryz.func158
theorem ab5:aH 159:=aI Tryz.func159
theorem Sq:aH 160:=aI Tryz.func160
theorem Sr:aH 161:=aI Tryz.func161
theorem ab6:aH 162:=aI Tryz.func162
theorem ab7:aH 163:=aI Tryz.func163
theorem Ss:aH 164:=aI Tryz.func164
theorem FM:aH 165:=aI Tryz.func165
theorem ab8:aH 166:=aI Tryz.func166
theorem ab9:aH 167:=aI Tryz.func167
theorem ab_:aH 168:=aI Tryz.func168
theorem tI:aH 171:=aI Tryz.func171
theorem FN:aH 172:=aI Tryz.func172
theorem Je:aH 173:=aI Tryz.func173
theorem ab':aH 174:=aI Tryz.func174
theorem Jf:aH 175:=aI Tryz.func175
theorem aca:aH 176:=aI Tryz.func176
theorem acb:aH 177:=aI Tryz.func177
theorem acd:aH 178:=aI Tryz.func178
theorem ace:aH 179:=aI Tryz.func179
theorem FO:aH 180:=aI Tryz.func180
theorem acg:aH 181:=aI Tryz.func181
theorem ach:aH 182:=aI Tryz.func182
theorem St:aH 183:=aI Tryz.func183
theorem aci:aH 184:=aI Tryz.func184
theorem acj:aH 185:=aI Tryz.func185
theorem Jg:aH 186:=aI Tryz.func186
theorem Su:aH 187:=aI Tryz.func187
theorem ack:aH 188:=aI Tryz.func188
theorem Sv:aH 189:=aI Tryz.func189
theorem MQ:aH 190:=aI Tryz.func190
theorem acm:aH 191:=aI Tryz.func191
theorem acn:aH 192:=aI Tryz.func192
theorem aco:aH 193:=aI Tryz.func193
theorem MR:aH 194:=aI Tryz.func194
theorem Sw:aH 195:=aI Tryz.func195
theorem Sy:aH 196:=aI Tryz.func196
theorem acp:aH 197:=aI Tryz.func197
theorem acq:aH 198:=aI Tryz.func198
theorem acr:aH 199:=aI Tryz.func199
theorem acu:aH 200:=aI Tryz.func200
theorem Sz:aH 201:=aI Tryz.func201
theorem SA:aH 202:=aI Tryz.func202
theorem acv:aH 203:=aI Tryz.func203
theorem MS:aH 204:=aI Tryz.func204
theorem SB:aH 205:=aI Tryz.func205
theorem SC:aH 206:=aI Tryz.func206
theorem Ab:aH 207:=aI Tryz.func207
theorem acw:aH 208:=aI Tryz.func208
theorem acx:aH 210:=aI Tryz.func210
theorem acy:aH 211:=aI Tryz.func211
theorem acz:aH 212:=aI Tryz.func212
theorem SE:aH 213:=aI Tryz.func213
theorem acA:aH 214:=aI Tryz.func214
theorem acB:aH 215:=aI Tryz.func215
theorem SF:aH 216:=aI Tryz.func216
theorem Jh:aH 217:=aI Tryz.func217
theorem Ji:aH 218:=aI Tryz.func218
theorem acC:aH 219:=aI Tryz.func219
theorem Jj:aH 220:=aI Tryz.func220
theorem acD:aH 221:=aI Tryz.func221
theorem acE:aH 222:=aI Tryz.func222
theorem acF:aH 223:=aI Tryz.func223
theorem SH:aH 224:=aI Tryz.func224
theorem acG:aH 225:=aI Tryz.func225
theorem acH:aH 226:=aI Tryz.func226
theorem MT:aH 227:=aI Tryz.func227
theorem SI:aH 228:=aI Tryz.func228
theorem acI:aH 229:=aI Tryz.func229
theorem acJ:aH 230:=aI Tryz.func230
theorem acK:aH 231:=aI Tryz.func231
theorem acL:aH 232:=aI Tryz.func232
theorem acM:aH 233:=aI Tryz.func233
theorem acN:aH 234:=aI Tryz.func234
theorem acO:aH 235:=aI Tryz.func235
theorem acP:aH 236:=aI Tryz.func236
theorem MU:aH 237:=aI Tryz.func237
theorem acQ:aH 238:=aI Tryz.func238
theorem MV:aH 239:=aI Tryz.func239
theorem acR:aH 240:=aI Tryz.func240
theorem acS:aH 241:=aI Tryz.func241
theorem acT:aH 242:=aI Tryz.func242
theorem SK:aH 243:=aI Tryz.func243
theorem acU:aH 244:=aI Tryz.func244
theorem SL:aH 245:=aI Tryz.func245
theorem acV:aH 246:=aI Tryz.func246
theorem SM:aH 247:=aI Tryz.func247
theorem MW:aH 248:=aI Tryz.func248
theorem acW:aH 249:=aI Tryz.func249
theorem SP:aH 250:=aI Tryz.func250
theorem acX:aH 251:=aI Tryz.func251
theorem acY:aH 252:=aI Tryz.func252
theorem acZ:aH 253:=aI Tryz.func253
theorem ac0:aH 254:=aI Tryz.func254
theorem ac1:aH 255:=aI Tryz.func255
theorem ac2:aH 264:=aI Tryz.func264
theorem Jk:aH 265:=aI Tryz.func265
theorem ac3:aH 266:=aI Tryz.func266
theorem ac4:aH 267:=aI Tryz.func267
theorem ac5:aH 269:=aI Tryz.func269
theorem SQ:aH 270:=aI Tryz.func270
theorem ac6:aH 271:=aI Tryz.func271
theorem ac7:aH 272:=aI Tryz.func272
theorem MX:aH 273:=aI Tryz.func273
theorem MY:aH 274:=aI Tryz.func274
theorem ac8:aH 275:=aI Tryz.func275
theorem ac9:aH 276:=aI Tryz.func276
theorem wM:aH 277:=aI Tryz.func277
theorem MZ:aH 278:=aI Tryz.func278
theorem SR:aH 279:=aI Tryz.func279
theorem SS:aH 280:=aI Tryz.func280
theorem ac':aH 281:=aI Tryz.func281
theorem ada:aH 282:=aI Tryz.func282
theorem adb:aH 288:=aI Tryz.func288
theorem ade:aH 289:=aI Tryz.func289
theorem adg:aH 290:=aI Tryz.func290
theorem SU:aH 291:=aI Tryz.func291
theorem SV:aH 292:=aI Tryz.func292
theorem M0:aH 293:=aI Tryz.func293
theorem FQ:aH 294:=aI Tryz.func294
theorem adh:aH 295:=aI Tryz.func295
theorem adi:aH 297:=aI Tryz.func297
theorem adj:aH 299:=aI Tryz.func299
theorem adk:aH 300:=aI Tryz.func300
theorem SX:aH 301:=aI Tryz.func301
theorem adl:aH 302:=aI Tryz.func302
theorem adm:aH 303:=aI Tryz.func303
theorem adn:aH 304:=aI Tryz.func304
theorem ado:aH 305:=aI Tryz.func305
theorem mix:Tryz.prog.follows .mixedOrders=true:=ay
theorem aic:Tryz.prog.stoodInHeld 94=false/\Tryz.prog.eqGuardType Tryz.prog.depth 94=false:=⟨by kernel_rfl,by kernel_rfl⟩
theorem O0:Tryz.prog.stoodInHeld 285=false/\Tryz.prog.eqGuardType Tryz.prog.depth 285=false:=⟨by kernel_rfl,by kernel_rfl⟩
@[reducible] def Xk (o : Option fP) (v : Value) (G : List Hp) : Prop := match o with
 |none=>v= .pointer none/\G=[]
 |some x=> ∃(b:Nat) (a0:Option Addr) (n0:Nat) (H0:Hp) (a1:Nat) (H1:Hp),ak ky 278 x.au a0 n0 H0/\cP (Ky.pair T .i64 rfl rfl rfl lG u3) (λx:Int=>Value.int .i64 x) x.fD a1 H1/\v= .pointer (some ⟨b,0,none⟩)/\G=[(cl b 238 [(ii x.k),(ll a0 x.au n0),(.map (some a1)),(ii x.cC),(ii x.dg)]),H0,H1]
def rU (x:jo) (b:Nat) (H:Hp):Prop:= ∃(b0:Nat) (a1:Option Addr) (n1:Nat) (H1:Hp) (a2:Nat) (H2:Hp) (a3:Option Addr) (n3:Nat) (H3:Hp),ak ky 278 x.keys.au a1 n1 H1/\cP (Ky.pair T .i64 rfl rfl rfl lG u3) (λx:Int=>Value.int .i64 x) x.keys.fD a2 H2/\gv Ee 291 x.fields a3 n3 H3/\H=List.flatten [(cl b 173 [(pp b0),(ll a3 x.fields n3),(uu x.count.bC),(uu x.count.bD),(uu x.count.bA),(uu x.count.bz),(uu x.count.bJ),(uu x.count.bF)]),(cl b0 238 [(ii x.keys.k),(ll a1 x.keys.au n1),(.map (some a2)),(ii x.keys.cC),(ii x.keys.dg)]),H1,H2,H3]
@[reducible] def Xq (o : Option jo) (v : Value) (G : List Hp) : Prop := match o with
 |none=>v= .pointer none/\G=[]
 |some x=> ∃(b:Nat) (H:Hp),rU x b H/\v= .pointer (some ⟨b,0,none⟩)/\G=[H]
def iE (x:bw) (b:Nat) (H:Hp):Prop:= ∃(a0:Option Addr) (n0:Nat) (H0:Hp) (a1:Option Addr) (n1:Nat) (H1:Hp),ak (Fl.int .u8) 5 x.m.C a0 n0 H0/\ak (Fl.int .i64) 2 x.pC a1 n1 H1/\H=List.flatten [(cl b 167 [(ii x.m.W),(ii x.m.H),(ll a0 x.m.C n0),(ii x.bK),(ll a1 x.pC n1)]),H0,H1]
def mw (x:dH) (b:Nat) (l0:Nat) (H:Hp):Prop:= ∃(a0:Option Addr) (n0:Nat) (H0:Hp),gv Ot 217 x.parts a0 n0 H0/\H=List.flatten [(cl b 213 [(pp l0),(ll a0 x.parts n0),(ii x.clean),(uu x.count)]),H0]
def K9 (o:Option ic) (l0:Nat) (l1:Nat) (v0:Value) (H:Hp):Prop:=match o with
 |none=>v0= .pointer none/\H=[]
 |some y=> ∃(b0:Nat) (a1:Option Addr) (n1:Nat) (H1:Hp),ak (Fl.int .i32) 21 y.aR a1 n1 H1/\v0=(pp b0)/\H=List.flatten [(cl b0 235 [(ii y.goal),(ii y.bK),(ll a1 y.aR n1)]),H1]
def tr (x:j6) (b:Nat) (l0:Nat) (l1:Nat) (H:Hp):Prop:= ∃(v0:Value) (Ho:Hp),K9 x.kept l0 l1 v0 Ho/\H=List.flatten [(cl b 233 [(pp l0),(pp l1),v0,(uu x.count)]),Ho]
def ux (o:Option eI) (v0 v1 v2:Value) (H:Hp):Prop:=match o with
 |none=>v0= .pointer none/\v1= .pointer none/\v2= .pointer none/\H=[]
 |some y=> ∃(b0:Nat) (H0:Hp) (b1:Nat) (H1:Hp) (b2:Nat) (H2:Hp),iE y.aK b0 H0/\mw y.iz b1 b0 H1/\tr y.iV b2 b1 b0 H2/\v0=(pp b0)/\v1=(pp b1)/\v2=(pp b2)/\H=List.flatten [H0,H1,H2]
def gL (x:bZ) (b:Nat) (H:Hp):Prop:= ∃(b0:Nat) (H0:Hp) (v0 v1 v2:Value) (Ho:Hp),rU x.fJ b0 H0/\ux x.core v0 v1 v2 Ho/\H=List.flatten [(cl b 135 [v0,v1,v2,(pp b0),(uu x.aV.bC),(uu x.aV.bD),(uu x.aV.bA),(uu x.aV.bz),(uu x.aV.bJ),(uu x.aV.bF)]),H0,Ho]
@[reducible] def Xm (o : Option bZ) (v : Value) (G : List Hp) : Prop := match o with
 |none=>v= .pointer none/\G=[]
 |some x=> ∃(b:Nat) (H:Hp),gL x b H/\v= .pointer (some ⟨b,0,none⟩)/\G=[H]
def lr (x:dV) (b:Nat) (H:Hp):Prop:= ∃(b0:Nat) (a1:Nat) (H1:Hp) (a2:Option Addr) (n2:Nat) (H2:Hp) (b3:Nat) (a4:Option Addr) (n4:Nat) (H4:Hp),cP (Ky.int .i64 u3) (λx:aD=>Value.agg #[.int .i64 x.Id,.int .i64 x.Cell,.int .i64 x.Goal]) x.cU.live a1 H1/\ak (Fl.int .i64) 3 x.cU.order a2 n2 H2/\ak (Fl.int .u32) 65 x.floor.words a4 n4 H4/\H=List.flatten [(cl b 146 [(ii x.w),(ii x.h),(ii x.most),(pp b0),(pp b3)]),(cl b0 178 [(ii x.cU.most),(ii x.cU.next),(.map (some a1)),(ll a2 x.cU.order n2)]),H1,H2,(cl b3 221 [(ll a4 x.floor.words n4),(ii x.floor.count)]),H4]
def Bj (o:Option dV) (v0:Value) (H:Hp):Prop:=match o with
 |none=>v0= .pointer none/\H=[]
 |some y=> ∃(b0:Nat) (H0:Hp),lr y b0 H0/\v0=(pp b0)/\H=List.flatten [H0]
def fM (x:bE) (b:Nat) (H:Hp):Prop:= ∃(b0:Nat) (H0:Hp) (v0:Value) (Ho:Hp),gL x.nav b0 H0/\Bj x.eH v0 Ho/\H=List.flatten [(cl b 103 [(ii x.most),(pp b0),v0]),H0,Ho]
@[reducible] def Xr (o : Option bE) (v : Value) (G : List Hp) : Prop := match o with
 |none=>v= .pointer none/\G=[]
 |some x=> ∃(b:Nat) (H:Hp),fM x b H/\v= .pointer (some ⟨b,0,none⟩)/\G=[H]
@[reducible] def Xi (o : Option bw) (v : Value) (G : List Hp) : Prop := match o with
 |none=>v= .pointer none/\G=[]
 |some x=> ∃(b:Nat) (H:Hp),iE x b H/\v= .pointer (some ⟨b,0,none⟩)/\G=[H]
@[reducible] def Xl (w0 : Nat) (o : Option dH) (v : Value) (G : List Hp) : Prop := match o with
 |none=>v= .pointer none/\G=[]
 |some x=> ∃(b:Nat) (H:Hp),mw x b w0 H/\v= .pointer (some ⟨b,0,none⟩)/\G=[H]
@[reducible] def Xo (w0 : Nat) (w1 : Nat) (o : Option j6) (v : Value) (G : List Hp) : Prop := match o with
 |none=>v= .pointer none/\G=[]
 |some x=> ∃(b:Nat) (H:Hp),tr x b w0 w1 H/\v= .pointer (some ⟨b,0,none⟩)/\G=[H]
@[reducible] def Xs (o : Option eW) (v : Value) (G : List Hp) : Prop := match o with
 |none=>v= .pointer none/\G=[]
 |some x=> ∃(b:Nat) (a0:Nat) (H0:Hp) (a1:Option Addr) (n1:Nat) (H1:Hp),cP (Ky.int .i64 u3) (λx:aD=>Value.agg #[.int .i64 x.Id,.int .i64 x.Cell,.int .i64 x.Goal]) x.live a0 H0/\ak (Fl.int .i64) 3 x.order a1 n1 H1/\v= .pointer (some ⟨b,0,none⟩)/\G=[(cl b 178 [(ii x.most),(ii x.next),(.map (some a0)),(ll a1 x.order n1)]),H0,H1]
@[reducible] def Xh (o : Option fk) (v : Value) (G : List Hp) : Prop := match o with
 |none=>v= .pointer none/\G=[]
 |some x=> ∃(b:Nat) (a0:Option Addr) (n0:Nat) (H0:Hp),ak (Fl.int .u32) 65 x.words a0 n0 H0/\v= .pointer (some ⟨b,0,none⟩)/\G=[(cl b 221 [(ll a0 x.words n0),(ii x.count)]),H0]
@[reducible] def Xg (o : Option dV) (v : Value) (G : List Hp) : Prop := match o with
 |none=>v= .pointer none/\G=[]
 |some x=> ∃(b:Nat) (H:Hp),lr x b H/\v= .pointer (some ⟨b,0,none⟩)/\G=[H]
def kj (x:ez) (b:Nat) (H:Hp):Prop:=xP VK [.int .i64 x.ba,.int .i64 x.len] x.buckets b 396 H/\List.length x.buckets=256
@[reducible] def Xn (o : Option ez) (v : Value) (G : List Hp) : Prop := match o with
 |none=>v= .pointer none/\G=[]
 |some x=> ∃(b:Nat) (H:Hp),kj x b H/\v= .pointer (some ⟨b,0,none⟩)/\G=[H]
@[reducible] def Xj (o : Option eK) (v : Value) (G : List Hp) : Prop := match o with
 |none=>v= .pointer none/\G=[]
 |some x=> ∃(b:Nat) (a0:Option Addr) (n0:Nat) (H0:Hp),ak fA 359 x.l a0 n0 H0/\v= .pointer (some ⟨b,0,none⟩)/\G=[(cl b 357 [(ll a0 x.l n0)]),H0]
@[reducible] def Xp (o : Option ic) (v : Value) (G : List Hp) : Prop := match o with
 |none=>v= .pointer none/\G=[]
 |some x=> ∃(b:Nat) (a0:Option Addr) (n0:Nat) (H0:Hp),ak (Fl.int .i32) 21 x.aR a0 n0 H0/\v= .pointer (some ⟨b,0,none⟩)/\G=[(cl b 235 [(ii x.goal),(ii x.bK),(ll a0 x.aR n0)]),H0]
def Xt (r:Option ic) (x:j6) (b:Nat) (l0:Nat) (l1:Nat) (u:Value) (H:Hp):Prop:=match r with
 |none=>u= .pointer none/\tr x b l0 l1 H
 |some y=>x.kept=some y/\ ∃(b0:Nat) (a1:Option Addr) (n1:Nat) (H1:Hp),ak (Fl.int .i32) 21 y.aR a1 n1 H1/\u= .pointer (some ⟨b0,0,none⟩)/\H=List.flatten [(cl b 233 [(pp l0),(pp l1),(pp b0),(uu x.count)]),List.flatten [(cl b0 235 [(ii y.goal),(ii y.bK),(ll a1 y.aR n1)]),H1]]
abbrev QR:=CR Tryz.prog
abbrev QU:=CU Tryz.prog
end Go.Proofs.YthodkonhneebbaaGreatDoor
