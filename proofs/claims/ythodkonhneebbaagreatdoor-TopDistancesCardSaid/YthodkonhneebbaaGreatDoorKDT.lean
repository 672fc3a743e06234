/- Part of the proof. No condition. -/
import Derived.Test.YthodkonhneebbaaGreatDoorProg
import Derived.KernelRfl
import Derived.Test.YthodkonhneebbaaGreatDoorKDErrs
import Derived.Test.YthodkonhneebbaaGreatDoorKDHz
namespace Go.Proofs.YthodkonhneebbaaGreatDoor
open Go.Hx
set_option maxRecDepth 100000
set_option linter.unusedSimpArgs false
set_option linter.unusedVariables false
structure pD where
 Kind:Int
 A:Int
 B:Int
instance :Inhabited pD:=⟨⟨default,default,default⟩⟩
def Ep:Fl pD:=⟨3,λx=>[.int .i64 x.Kind,.int .i64 x.A,.int .i64 x.B],λ_=>rfl,λ_ v h=>by
 simp only[List.mem_cons,List.not_mem_nil,or_false] at h;rcases h with rfl |rfl |rfl<;>rfl,Nat.le_of_ble_eq_true rfl⟩
structure bq where
 key:(Int×Int)
 cQ:Int
 ba:Int
instance :Inhabited bq:=⟨⟨default,default,default⟩⟩
def kS:Fl bq:=⟨4,λx=>[.int .i64 x.key.1,.int .i64 x.key.2,.int .i64 x.cQ,.int .i64 x.ba],λ_=>rfl,λ_ v h=>by
 simp only[List.mem_cons,List.not_mem_nil,or_false] at h;rcases h with rfl |rfl |rfl |rfl<;>rfl,Nat.le_of_ble_eq_true rfl⟩
structure gx where
 k:Int
 aw:(List bq)
 fj:(List ((Int×Int)×Int))
 cJ:Int
 dr:Int
instance :Inhabited gx:=⟨⟨default,default,default,default,default⟩⟩
structure aX where
 Cell:Int
 cH:Int
 Key:Int
instance :Inhabited aX:=⟨⟨default,default,default⟩⟩
def cP:Fl aX:=⟨3,λx=>[.int .i64 x.Cell,.int .i64 x.cH,.int .i64 x.Key],λ_=>rfl,λ_ v h=>by
 simp only[List.mem_cons,List.not_mem_nil,or_false] at h;rcases h with rfl |rfl |rfl<;>rfl,Nat.le_of_ble_eq_true rfl⟩
structure gp where
 ez:(List Int)
 cK:(List Int)
instance :Inhabited gp:=⟨⟨default,default⟩⟩
structure qC where
 version:Int
 ug:(List aX)
 field:gp
instance :Inhabited qC:=⟨⟨default,default,default⟩⟩
structure gL where
 bJ:Int
 bK:Int
 bH:Int
 bF:Int
 bU:Int
 bO:Int
instance :Inhabited gL:=⟨⟨default,default,default,default,default,default⟩⟩
structure ju where
 keys:gx
 fields:(List qC)
 count:gL
instance :Inhabited ju:=⟨⟨default,default,default⟩⟩
def EC:Kd qC where
 size:=4
 own:=λx cs H=> ∃a0 n0 H0 a1 n1 H1 a2 n2 H2,ak cP 285 x.ug a0 n0 H0/\ak (Fl.int .i64) 3 x.field.ez a1 n1 H1/\ak (Fl.int .i64) 3 x.field.cK a2 n2 H2/\cs=[.int .i64 x.version,.slice a0 (List.length x.ug) n0,.slice a1 (List.length x.field.ez) n1,.slice a2 (List.length x.field.cK) n2]/\H=List.flatten [H0,H1,H2]
 oa:=λx cs H=> ∃(a0:Option Addr) (n0:Nat) (a1:Option Addr) (n1:Nat) (a2:Option Addr) (n2:Nat),(aP cP x.ug a0 H/\List.length x.ug<=n0)/\(aP (Fl.int .i64) x.field.ez a1 H/\List.length x.field.ez<=n1)/\(aP (Fl.int .i64) x.field.cK a2 H/\List.length x.field.cK<=n2)/\cs=[.int .i64 x.version,.slice a0 (List.length x.ug) n0,.slice a1 (List.length x.field.ez) n1,.slice a2 (List.length x.field.cK) n2]
 len:=by
  rintro x cs H ⟨a0,n0,H0,a1,n1,H1,a2,n2,H2,s0,s1,s2,rfl,rfl⟩
  rfl
 plain:=by
  rintro x cs H ⟨a0,n0,H0,a1,n1,H1,a2,n2,H2,s0,s1,s2,rfl,rfl⟩ v hv;simp only[List.mem_cons,List.not_mem_nil,or_false] at hv;rcases hv with rfl |rfl |rfl |rfl<;>rfl
 r:=by
  rintro x cs H ⟨a0,n0,H0,a1,n1,H1,a2,n2,H2,s0,s1,s2,rfl,rfl⟩;exact⟨a0,n0,a1,n1,a2,n2,⟨s0.r.mono (λc hc=>gY (HL:=[H0,H1,H2]) (j:=0) rfl hc),s0.b_⟩,⟨s1.r.mono (λc hc=>gY (HL:=[H0,H1,H2]) (j:=1) rfl hc),s1.b_⟩,⟨s2.r.mono (λc hc=>gY (HL:=[H0,H1,H2]) (j:=2) rfl hc),s2.b_⟩,rfl⟩
 mono:=by
  rintro x cs H H' ⟨a0,n0,a1,n1,a2,n2,⟨r0,c0⟩,⟨r1,c1⟩,⟨r2,c2⟩,rfl⟩ hs;exact⟨a0,n0,a1,n1,a2,n2,⟨r0.mono hs,c0⟩,⟨r1.mono hs,c1⟩,⟨r2.mono hs,c2⟩,rfl⟩
 pos:=by decide
structure aF where
 W:Int
 H:Int
 C:(List Int)
instance :Inhabited aF:=⟨⟨default,default,default⟩⟩
structure bw where
 m:aF
 bS:Int
 p7:(List Int)
instance :Inhabited bw:=⟨⟨default,default,default⟩⟩
structure pK where
 version:Int
 nodes:(List Int)
 aN:(List Int)
instance :Inhabited pK:=⟨⟨default,default,default⟩⟩
structure dK where
 parts:(List pK)
 clean:Int
 count:Int
instance :Inhabited dK:=⟨⟨default,default,default⟩⟩
structure gI where
 goal:Int
 bS:Int
 aN:(List Int)
instance :Inhabited gI:=⟨⟨default,default,default⟩⟩
structure jY where
 kept:(Option gI)
 count:Int
instance :Inhabited jY:=⟨⟨default,default⟩⟩
structure fe where
 aL:bw
 jq:dK
 kO:jY
instance :Inhabited fe:=⟨⟨default,default,default⟩⟩
structure cF where
 core:(Option fe)
 hZ:ju
 aU:gL
instance :Inhabited cF:=⟨⟨default,default,default⟩⟩
def ON:Kd pK where
 size:=3
 own:=λx cs H=> ∃a0 n0 H0 a1 n1 H1,ak (Fl.int .i64) 3 x.nodes a0 n0 H0/\ak (Fl.int .i32) 21 x.aN a1 n1 H1/\cs=[.int .i64 x.version,.slice a0 (List.length x.nodes) n0,.slice a1 (List.length x.aN) n1]/\H=List.flatten [H0,H1]
 oa:=λx cs H=> ∃(a0:Option Addr) (n0:Nat) (a1:Option Addr) (n1:Nat),(aP (Fl.int .i64) x.nodes a0 H/\List.length x.nodes<=n0)/\(aP (Fl.int .i32) x.aN a1 H/\List.length x.aN<=n1)/\cs=[.int .i64 x.version,.slice a0 (List.length x.nodes) n0,.slice a1 (List.length x.aN) n1]
 len:=by
  rintro x cs H ⟨a0,n0,H0,a1,n1,H1,s0,s1,rfl,rfl⟩
  rfl
 plain:=by
  rintro x cs H ⟨a0,n0,H0,a1,n1,H1,s0,s1,rfl,rfl⟩ v hv;simp only[List.mem_cons,List.not_mem_nil,or_false] at hv;rcases hv with rfl |rfl |rfl<;>rfl
 r:=by
  rintro x cs H ⟨a0,n0,H0,a1,n1,H1,s0,s1,rfl,rfl⟩;exact⟨a0,n0,a1,n1,⟨s0.r.mono (λc hc=>gY (HL:=[H0,H1]) (j:=0) rfl hc),s0.b_⟩,⟨s1.r.mono (λc hc=>gY (HL:=[H0,H1]) (j:=1) rfl hc),s1.b_⟩,rfl⟩
 mono:=by
  rintro x cs H H' ⟨a0,n0,a1,n1,⟨r0,c0⟩,⟨r1,c1⟩,rfl⟩ hs;exact⟨a0,n0,a1,n1,⟨r0.mono hs,c0⟩,⟨r1.mono hs,c1⟩,rfl⟩
 pos:=by decide
structure bB where
 Id:Int
 Cell:Int
 Goal:Int
instance :Inhabited bB:=⟨⟨default,default,default⟩⟩
def lT:Fl bB:=⟨3,λx=>[.int .i64 x.Id,.int .i64 x.Cell,.int .i64 x.Goal],λ_=>rfl,λ_ v h=>by
 simp only[List.mem_cons,List.not_mem_nil,or_false] at h;rcases h with rfl |rfl |rfl<;>rfl,Nat.le_of_ble_eq_true rfl⟩
structure fI where
 most:Int
 next:Int
 live:(List (Int×bB))
 order:(List Int)
instance :Inhabited fI:=⟨⟨default,default,default,default⟩⟩
structure km where
 words:(List Int)
 count:Int
instance :Inhabited km:=⟨⟨default,default⟩⟩
structure ft where
 w:Int
 h:Int
 most:Int
 eV:fI
 floor:km
instance :Inhabited ft:=⟨⟨default,default,default,default,default⟩⟩
structure cm where
 most:Int
 nav:cF
 fB:(Option ft)
instance :Inhabited cm:=⟨⟨default,default,default⟩⟩
structure dL where
 Kind:Int
 A:Int
 B:Int
 Map:(List Int)
instance :Inhabited dL:=⟨⟨default,default,default,default⟩⟩
def Ht:Kd dL where
 size:=4
 own:=λx cs H=> ∃a0 n0 H0,ak (Fl.int .u8) 5 x.Map a0 n0 H0/\cs=[.int .i64 x.Kind,.int .i64 x.A,.int .i64 x.B,.slice a0 (List.length x.Map) n0]/\H=List.flatten [H0]
 oa:=λx cs H=> ∃(a0:Option Addr) (n0:Nat),(aP (Fl.int .u8) x.Map a0 H/\List.length x.Map<=n0)/\cs=[.int .i64 x.Kind,.int .i64 x.A,.int .i64 x.B,.slice a0 (List.length x.Map) n0]
 len:=by
  rintro x cs H ⟨a0,n0,H0,s0,rfl,rfl⟩
  rfl
 plain:=by
  rintro x cs H ⟨a0,n0,H0,s0,rfl,rfl⟩ v hv;simp only[List.mem_cons,List.not_mem_nil,or_false] at hv;rcases hv with rfl |rfl |rfl |rfl<;>rfl
 r:=by
  rintro x cs H ⟨a0,n0,H0,s0,rfl,rfl⟩;exact⟨a0,n0,⟨s0.r.mono (λc hc=>gY (HL:=[H0]) (j:=0) rfl hc),s0.b_⟩,rfl⟩
 mono:=by
  rintro x cs H H' ⟨a0,n0,⟨r0,c0⟩,rfl⟩ hs;exact⟨a0,n0,⟨r0.mono hs,c0⟩,rfl⟩
 pos:=by decide
structure fY where
 Id:Int
 To:Int
instance :Inhabited fY:=⟨⟨default,default⟩⟩
def jE:Fl fY:=⟨2,λx=>[.int .i64 x.Id,.int .i64 x.To],λ_=>rfl,λ_ v h=>by
 simp only[List.mem_cons,List.not_mem_nil,or_false] at h;rcases h with rfl |rfl<;>rfl,Nat.le_of_ble_eq_true rfl⟩
structure lZ where
 Code:Int
 D:Int
 cK:Int
 Id:Int
 iG:(List fY)
 iU:(List Int)
 Stats:gL
instance :Inhabited lZ:=⟨⟨default,default,default,default,default,default,default⟩⟩
structure A7 where
 a:Int
 b:Int
 load:Bool
instance :Inhabited A7:=⟨⟨default,default,default⟩⟩
structure fb where
 b:(List Int)
 aZ:Int
instance :Inhabited fb:=⟨⟨default,default⟩⟩
structure jX where
 items:(List Int)
 gone:Int
instance :Inhabited jX:=⟨⟨default,default⟩⟩
def V0:Kd jX where
 size:=2
 own:=λx cs H=> ∃a0 n0 H0,ak (Fl.int .i64) 3 x.items a0 n0 H0/\cs=[.slice a0 (List.length x.items) n0,.int .i64 x.gone]/\H=List.flatten [H0]
 oa:=λx cs H=> ∃(a0:Option Addr) (n0:Nat),(aP (Fl.int .i64) x.items a0 H/\List.length x.items<=n0)/\cs=[.slice a0 (List.length x.items) n0,.int .i64 x.gone]
 len:=by
  rintro x cs H ⟨a0,n0,H0,s0,rfl,rfl⟩
  rfl
 plain:=by
  rintro x cs H ⟨a0,n0,H0,s0,rfl,rfl⟩ v hv;simp only[List.mem_cons,List.not_mem_nil,or_false] at hv;rcases hv with rfl |rfl<;>rfl
 r:=by
  rintro x cs H ⟨a0,n0,H0,s0,rfl,rfl⟩;exact⟨a0,n0,⟨s0.r.mono (λc hc=>gY (HL:=[H0]) (j:=0) rfl hc),s0.b_⟩,rfl⟩
 mono:=by
  rintro x cs H H' ⟨a0,n0,⟨r0,c0⟩,rfl⟩ hs;exact⟨a0,n0,⟨r0.mono hs,c0⟩,rfl⟩
 pos:=by decide
structure eU where
 aZ:Int
 len:Int
 buckets:(List jX)
instance :Inhabited eU:=⟨⟨default,default,default⟩⟩
def EX:List Int:=[0,1,2,2,3,3,3,3,4,4,4,4,4,4,4,4,5,5,5,5,5,5,5,5,5,5,5,5,5,5,5,5,6,6,6,6,6,6,6,6,6,6,6,6,6,6,6,6,6,6,6,6,6,6,6,6,6,6,6,6,6,6,6,6,7,7,7,7,7,7,7,7,7,7,7,7,7,7,7,7,7,7,7,7,7,7,7,7,7,7,7,7,7,7,7,7,7,7,7,7,7,7,7,7,7,7,7,7,7,7,7,7,7,7,7,7,7,7,7,7,7,7,7,7,7,7,7,7,8,8,8,8,8,8,8,8,8,8,8,8,8,8,8,8,8,8,8,8,8,8,8,8,8,8,8,8,8,8,8,8,8,8,8,8,8,8,8,8,8,8,8,8,8,8,8,8,8,8,8,8,8,8,8,8,8,8,8,8,8,8,8,8,8,8,8,8,8,8,8,8,8,8,8,8,8,8,8,8,8,8,8,8,8,8,8,8,8,8,8,8,8,8,8,8,8,8,8,8,8,8,8,8,8,8,8,8,8,8,8,8,8,8,8,8,8,8,8,8,8,8,8,8,8,8,8,8]
structure dj where
 t:aF
 wait:eU
 todo:(List aX)
 aN:(List Int)
instance :Inhabited dj:=⟨⟨default,default,default,default⟩⟩
structure cN where
 key:Int
 item:Int
instance :Inhabited cN:=⟨⟨default,default⟩⟩
def fN:Fl cN:=⟨2,λx=>[.int .i64 x.key,.int .i64 x.item],λ_=>rfl,λ_ v h=>by
 simp only[List.mem_cons,List.not_mem_nil,or_false] at h;rcases h with rfl |rfl<;>rfl,Nat.le_of_ble_eq_true rfl⟩
structure eJ where
 l:(List cN)
instance :Inhabited eJ:=⟨⟨default⟩⟩
structure d_ where
 To:Int
 kE:Int
instance :Inhabited d_:=⟨⟨default,default⟩⟩
def pH:Fl d_:=⟨2,λx=>[.int .i64 x.To,.int .i64 x.kE],λ_=>rfl,λ_ v h=>by
 simp only[List.mem_cons,List.not_mem_nil,or_false] at h;rcases h with rfl |rfl<;>rfl,Nat.le_of_ble_eq_true rfl⟩
structure Dp where
 t:aF
 l:(List aX)
 aN:(List Int)
instance :Inhabited Dp:=⟨⟨default,default,default⟩⟩
structure gr where
 Goal:Int
 sZ:Int
 j_:(List Int)
instance :Inhabited gr:=⟨⟨default,default,default⟩⟩
def pP:Kd gr where
 size:=3
 own:=λx cs H=> ∃a0 n0 H0,ak (Fl.int .i64) 3 x.j_ a0 n0 H0/\cs=[.int .i64 x.Goal,.int .i64 x.sZ,.slice a0 (List.length x.j_) n0]/\H=List.flatten [H0]
 oa:=λx cs H=> ∃(a0:Option Addr) (n0:Nat),(aP (Fl.int .i64) x.j_ a0 H/\List.length x.j_<=n0)/\cs=[.int .i64 x.Goal,.int .i64 x.sZ,.slice a0 (List.length x.j_) n0]
 len:=by
  rintro x cs H ⟨a0,n0,H0,s0,rfl,rfl⟩
  rfl
 plain:=by
  rintro x cs H ⟨a0,n0,H0,s0,rfl,rfl⟩ v hv;simp only[List.mem_cons,List.not_mem_nil,or_false] at hv;rcases hv with rfl |rfl |rfl<;>rfl
 r:=by
  rintro x cs H ⟨a0,n0,H0,s0,rfl,rfl⟩;exact⟨a0,n0,⟨s0.r.mono (λc hc=>gY (HL:=[H0]) (j:=0) rfl hc),s0.b_⟩,rfl⟩
 mono:=by
  rintro x cs H H' ⟨a0,n0,⟨r0,c0⟩,rfl⟩ hs;exact⟨a0,n0,⟨r0.mono hs,c0⟩,rfl⟩
 pos:=by decide
structure rj where
 w:Int
 h:Int
 kB:(List (Int×Bool))
 jU:(List fY)
 gone:(List Int)
instance :Inhabited rj:=⟨⟨default,default,default,default,default⟩⟩
def fD (n : String) (t o b : Nat) : Field := ⟨n, t, o, false, "", "", b⟩
def ck (n : String) (t o b : Nat) (p : String) : Field := ⟨n, t, o, false, "", p, b⟩
theorem aJ {P : Program} {f : FuncId} {fn : Func} (h : P.funcs[f]? = some fn) (a : (fn.name == "runtime.NumGoroutine") = false := by kernel_rfl) (b : fn.body.isNone = false := by kernel_rfl) : Has P f := ⟨⟨fn, h, a, b⟩⟩
theorem all_map {α β:Type} {g:Nat->β} {k:α->β}: ∀{l:List (Nat×α)},l.map (λe=>g e.1)=l.map (λe=>k e.2)->E_ (λt d=>g t=k d) l
 |[],_=>trivial
 |_::_,h=>⟨(List.cons.inj h).1,all_map (List.cons.inj h).2⟩
def Ty.om {P:Program} (us:List (Nat×TypeDesc)) (is:List (Nat×(Nat×Nat×Value))) (hu:us.map (λe=>P.underlying e.1)=us.map (λe=>some e.2):=by kernel_rfl)
 (hi:is.map (λe=>(P.info? e.1).map λi=>(i.size,i.bytes,i.zero))=is.map (λe=>some (e.2.1,e.2.2.1,some e.2.2.2)):=by kernel_rfl):Ty P:=
 Ty.of us is (all_map hu) (all_map (k:=λd:Nat×Nat×Value=>some (d.1,d.2.1,some d.2.2)) hi)
theorem u3:Tryz.prog.underlying 3=some (.int .i64):=aA
theorem lV:Tryz.prog.underlying 76=some (.array 2 3):=aA
noncomputable def T : Ty Tryz.prog := Ty.om [(2, .int .i64), (3, .int .i64), (4, .bool), (5, .int .u8), (9, .string), (21, .int .i32), (22, .slice 5), (23, .slice 97), (24, .slice 3), (25, .pointer 103), (30, .struct #[(fD "W" 3 0 0), (fD "H" 3 1 8), (fD "C" 22 2 16)]), (40, .slice 55), (43, .slice 4), (44, .int .u64), (46, .struct #[(fD "Rebuilds" 44 0 0), (fD "Searches" 44 1 8), (fD "Builds" 44 2 16), (fD "Hits" 44 3 24), (fD "Stale" 44 4 32), (fD "Evicts" 44 5 40)]), (48, .slice 67), (50, .slice 94), (52, .struct #[(fD "Code" 3 0 0), (fD "D" 3 1 8), (fD "Dir" 3 2 16), (fD "Id" 3 3 24), (fD "Moves" 50 4 32), (fD "Gone" 24 5 56), (fD "Stats" 46 6 80)]), (55, .struct #[(fD "Kind" 3 0 0), (fD "A" 3 1 8), (fD "B" 3 2 16), (fD "Map" 22 3 24)]), (59, .slice 120), (63, .slice 65), (65, .int .u32), (67, .struct #[(fD "Id" 3 0 0), (fD "Cell" 3 1 8), (fD "Goal" 3 2 16)]), (76, .array 2 3), (79, .struct #[(fD "Dist" 24 0 0), (fD "Dir" 24 1 24)]), (88, .pointer 135), (94, .struct #[(fD "Id" 3 0 0), (fD "To" 3 1 8)]), (97, .struct #[(fD "Kind" 3 0 0), (fD "A" 3 1 8), (fD "B" 3 2 16)]), (101, .pointer 146), (103, .struct #[(ck "most" 3 0 0 "herdsman/svc"), (ck "nav" 88 1 8 "herdsman/svc"), (ck "crowd" 101 2 16 "herdsman/svc")]), (106, .interface #[("Error", 415)]), (110, .pointer 112), (112, .struct #[(ck "kind" 3 0 0 "herdsman/svc"), (ck "of" 106 1 8 "herdsman/svc")]), (117, .map 3 59), (118, .map 76 3), (120, .struct #[(fD "Goal" 3 0 0), (fD "Sector" 3 1 8), (fD "Ids" 24 2 16)]), (122, .map 3 4), (123, .array 6 44), (130, .pointer 167), (131, .pointer 213), (132, .pointer 233), (133, .pointer 173), (135, .struct #[(ck "grid" 130 0 0 "herdsman/nav"), (ck "mesh" 131 1 8 "herdsman/nav"), (ck "finder" 132 2 16 "herdsman/nav"), (ck "shelf" 133 3 24 "herdsman/nav"), (ck "past" 46 4 32 "herdsman/nav")]), (136, .int .u64), (139, .struct #[(fD "W" 3 0 0), (fD "H" 3 1 8), (fD "C" 22 2 16)]), (143, .pointer 178), (144, .pointer 221), (146, .struct #[(ck "w" 3 0 0 "herdsman/crowd"), (ck "h" 3 1 8 "herdsman/crowd"), (ck "most" 3 2 16 "herdsman/crowd"), (ck "units" 143 3 24 "herdsman/crowd"), (ck "floor" 144 4 32 "herdsman/crowd")]), (148, .int .i64), (160, .pointer 148), (165, .slice 2), (167, .struct #[(ck "m" 30 0 0 "herdsman/grid"), (ck "epoch" 2 3 40 "herdsman/grid"), (ck "versions" 165 4 48 "herdsman/grid")]), (169, .pointer 238), (171, .slice 291), (173, .struct #[(ck "keys" 169 0 0 "herdsman/shelf"), (ck "fields" 171 1 8 "herdsman/shelf"), (ck "count" 46 2 32 "herdsman/shelf")]), (176, .map 3 67), (178, .struct #[(ck "most" 3 0 0 "herdsman/units"), (ck "next" 3 1 8 "herdsman/units"), (ck "live" 176 2 16 "herdsman/units"), (ck "order" 24 3 24 "herdsman/units")]), (180, .struct #[(ck "a" 3 0 0 "herdsman/op"), (ck "b" 3 1 8 "herdsman/op"), (ck "load" 4 2 16 "herdsman/op")]), (211, .slice 217), (213, .struct #[(ck "g" 130 0 0 "herdsman/mesh"), (ck "parts" 211 1 8 "herdsman/mesh"), (ck "clean" 2 2 32 "herdsman/mesh"), (ck "count" 44 3 40 "herdsman/mesh")]), (215, .slice 21), (217, .struct #[(ck "version" 2 0 0 "herdsman/mesh"), (ck "nodes" 24 1 8 "herdsman/mesh"), (ck "dist" 215 2 32 "herdsman/mesh")]), (221, .struct #[(ck "words" 63 0 0 "herdsman/floor"), (ck "count" 3 1 24 "herdsman/floor")]), (222, .pointer 224), (224, .struct #[(ck "goal" 3 0 0 "herdsman/nav"), (ck "of" 106 1 8 "herdsman/nav")]), (227, .slice 285), (229, .pointer 235), (233, .struct #[(ck "m" 131 0 0 "herdsman/route"), (ck "g" 130 1 8 "herdsman/route"), (ck "kept" 229 2 16 "herdsman/route"), (ck "count" 44 3 24 "herdsman/route")]), (235, .struct #[(ck "goal" 3 0 0 "herdsman/route"), (ck "epoch" 2 1 8 "herdsman/route"), (ck "dist" 215 2 16 "herdsman/route")]), (236, .slice 278), (238, .struct #[(ck "k" 3 0 0 "herdsman/lru"), (ck "seats" 236 1 8 "herdsman/lru"), (ck "slots" 118 2 32 "herdsman/lru"), (ck "newest" 3 3 40 "herdsman/lru"), (ck "oldest" 3 4 48 "herdsman/lru")]), (243, .int .i64), (244, .pointer 243), (258, .map 3 3), (278, .struct #[(ck "key" 76 0 0 "herdsman/lru"), (ck "newer" 3 2 16 "herdsman/lru"), (ck "old" 3 3 24 "herdsman/lru")]), (280, .slice 283), (283, .struct #[(fD "To" 3 0 0), (fD "Cost" 3 1 8)]), (285, .struct #[(fD "Cell" 3 0 0), (fD "Side" 3 1 8), (fD "Key" 3 2 16)]), (291, .struct #[(ck "version" 2 0 0 "herdsman/shelf"), (ck "seeds" 227 1 8 "herdsman/shelf"), (ck "field" 79 2 32 "herdsman/shelf")]), (301, .pointer 303), (303, .struct #[(ck "sector" 3 0 0 "herdsman/atlas"), (ck "of" 106 1 8 "herdsman/atlas")]), (309, .struct #[(ck "w" 3 0 0 "herdsman/march"), (ck "h" 3 1 8 "herdsman/march"), (ck "stand" 122 2 16 "herdsman/march"), (ck "moves" 50 3 24 "herdsman/march"), (ck "gone" 24 4 48 "herdsman/march")]), (314, .array 4 3), (320, .pointer 357), (337, .struct #[(ck "t" 139 0 0 "herdsman/steer"), (ck "l" 227 3 40 "herdsman/steer"), (ck "dist" 24 4 64 "herdsman/steer")]), (340, .struct #[(ck "b" 22 0 0 "herdsman/pack"), (ck "at" 3 1 24 "herdsman/pack")]), (343, .pointer 346), (344, .pointer 343), (346, .struct #[(ck "at" 3 0 0 "herdsman/pack"), (ck "code" 3 1 8 "herdsman/pack"), (ck "of" 106 2 16 "herdsman/pack")]), (355, .slice 359), (357, .struct #[(ck "l" 355 0 0 "herdsman/heap")]), (359, .struct #[(ck "key" 3 0 0 "herdsman/heap"), (ck "item" 3 1 8 "herdsman/heap")]), (360, .pointer 217), (365, .pointer 396), (369, .struct #[(ck "t" 139 0 0 "herdsman/sweep"), (ck "wait" 365 3 40 "herdsman/sweep"), (ck "todo" 227 4 48 "herdsman/sweep"), (ck "dist" 24 5 72 "herdsman/sweep")]), (393, .struct #[(ck "items" 24 0 0 "herdsman/ring"), (ck "gone" 3 1 24 "herdsman/ring")]), (394, .array 256 393), (396, .struct #[(ck "at" 3 0 0 "herdsman/ring"), (ck "len" 3 1 8 "herdsman/ring"), (ck "buckets" 394 2 16 "herdsman/ring")])]
 [(2,(1,8,(ii 0))),(3,(1,8,(ii 0))),(4,(1,1,(bb false))),(5,(1,1,(.int .u8 0))),(21,(1,4,(.int .i32 0))),(22,(1,24,nl)),(24,(1,24,nl)),(30,(3,40,(.agg #[(ii 0),(ii 0),nl]))),(44,(1,8,(uu 0))),(46,(6,48,(.agg #[(uu 0),(uu 0),(uu 0),(uu 0),(uu 0),(uu 0)]))),(50,(1,24,nl)),(52,(12,128,(.agg #[(ii 0),(ii 0),(ii 0),(ii 0),nl,nl,(uu 0),(uu 0),(uu 0),(uu 0),(uu 0),(uu 0)]))),(55,(4,48,(.agg #[(ii 0),(ii 0),(ii 0),nl]))),(59,(1,24,nl)),(63,(1,24,nl)),(65,(1,4,(.int .u32 0))),(67,(3,24,(.agg #[(ii 0),(ii 0),(ii 0)]))),(76,(2,16,(.agg #[(ii 0),(ii 0)]))),(79,(2,48,(.agg #[nl,nl]))),(88,(1,8,(.pointer none))),(94,(2,16,(.agg #[(ii 0),(ii 0)]))),(97,(3,24,(.agg #[(ii 0),(ii 0),(ii 0)]))),(101,(1,8,(.pointer none))),(103,(3,24,(.agg #[(ii 0),(.pointer none),(.pointer none)]))),(106,(1,16,.nilIface)),(112,(2,24,(.agg #[(ii 0),.nilIface]))),(118,(1,8,(.map none))),(120,(3,40,(.agg #[(ii 0),(ii 0),nl]))),(122,(1,8,(.map none))),(123,(6,48,(.agg #[(uu 0),(uu 0),(uu 0),(uu 0),(uu 0),(uu 0)]))),(130,(1,8,(.pointer none))),(131,(1,8,(.pointer none))),(132,(1,8,(.pointer none))),(133,(1,8,(.pointer none))),(135,(10,80,(.agg #[(.pointer none),(.pointer none),(.pointer none),(.pointer none),(uu 0),(uu 0),(uu 0),(uu 0),(uu 0),(uu 0)]))),(139,(3,40,(.agg #[(ii 0),(ii 0),nl]))),(143,(1,8,(.pointer none))),(144,(1,8,(.pointer none))),(146,(5,40,(.agg #[(ii 0),(ii 0),(ii 0),(.pointer none),(.pointer none)]))),(148,(1,8,(ii 0))),(165,(1,24,nl)),(167,(5,72,(.agg #[(ii 0),(ii 0),nl,(ii 0),nl]))),(169,(1,8,(.pointer none))),(171,(1,24,nl)),(173,(8,80,(.agg #[(.pointer none),nl,(uu 0),(uu 0),(uu 0),(uu 0),(uu 0),(uu 0)]))),(176,(1,8,(.map none))),(178,(4,48,(.agg #[(ii 0),(ii 0),(.map none),nl]))),(180,(3,24,(.agg #[(ii 0),(ii 0),(bb false)]))),(211,(1,24,nl)),(213,(4,48,(.agg #[(.pointer none),nl,(ii 0),(uu 0)]))),(215,(1,24,nl)),(217,(3,56,(.agg #[(ii 0),nl,nl]))),(221,(2,32,(.agg #[nl,(ii 0)]))),(224,(2,24,(.agg #[(ii 0),.nilIface]))),(227,(1,24,nl)),(229,(1,8,(.pointer none))),(233,(4,32,(.agg #[(.pointer none),(.pointer none),(.pointer none),(uu 0)]))),(235,(3,40,(.agg #[(ii 0),(ii 0),nl]))),(236,(1,24,nl)),(238,(5,56,(.agg #[(ii 0),nl,(.map none),(ii 0),(ii 0)]))),(243,(1,8,(ii 0))),(278,(4,32,(.agg #[(ii 0),(ii 0),(ii 0),(ii 0)]))),(283,(2,16,(.agg #[(ii 0),(ii 0)]))),(285,(3,24,(.agg #[(ii 0),(ii 0),(ii 0)]))),(291,(4,80,(.agg #[(ii 0),nl,nl,nl]))),(303,(2,24,(.agg #[(ii 0),.nilIface]))),(309,(5,72,(.agg #[(ii 0),(ii 0),(.map none),nl,nl]))),(314,(4,32,(.agg #[(ii 0),(ii 0),(ii 0),(ii 0)]))),(337,(5,88,(.agg #[(ii 0),(ii 0),nl,nl,nl]))),(340,(2,32,(.agg #[nl,(ii 0)]))),(343,(1,8,(.pointer none))),(346,(3,32,(.agg #[(ii 0),(ii 0),.nilIface]))),(355,(1,24,nl)),(357,(1,24,(.agg #[nl]))),(359,(2,16,(.agg #[(ii 0),(ii 0)]))),(365,(1,8,(.pointer none))),(369,(6,96,(.agg #[(ii 0),(ii 0),nl,(.pointer none),nl,nl]))),(393,(2,32,(.agg #[nl,(ii 0)]))),(394,(512,8192,(.agg #[nl,(ii 0),nl,(ii 0),nl,(ii 0),nl,(ii 0),nl,(ii 0),nl,(ii 0),nl,(ii 0),nl,(ii 0),nl,(ii 0),nl,(ii 0),nl,(ii 0),nl,(ii 0),nl,(ii 0),nl,(ii 0),nl,(ii 0),nl,(ii 0),nl,(ii 0),nl,(ii 0),nl,(ii 0),nl,(ii 0),nl,(ii 0),nl,(ii 0),nl,(ii 0),nl,(ii 0),nl,(ii 0),nl,(ii 0),nl,(ii 0),nl,(ii 0),nl,(ii 0),nl,(ii 0),nl,(ii 0),nl,(ii 0),nl,(ii 0),nl,(ii 0),nl,(ii 0),nl,(ii 0),nl,(ii 0),nl,(ii 0),nl,(ii 0),nl,(ii 0),nl,(ii 0),nl,(ii 0),nl,(ii 0),nl,(ii 0),nl,(ii 0),nl,(ii 0),nl,(ii 0),nl,(ii 0),nl,(ii 0),nl,(ii 0),nl,(ii 0),nl,(ii 0),nl,(ii 0),nl,(ii 0),nl,(ii 0),nl,(ii 0),nl,(ii 0),nl,(ii 0),nl,(ii 0),nl,(ii 0),nl,(ii 0),nl,(ii 0),nl,(ii 0),nl,(ii 0),nl,(ii 0),nl,(ii 0),nl,(ii 0),nl,(ii 0),nl,(ii 0),nl,(ii 0),nl,(ii 0),nl,(ii 0),nl,(ii 0),nl,(ii 0),nl,(ii 0),nl,(ii 0),nl,(ii 0),nl,(ii 0),nl,(ii 0),nl,(ii 0),nl,(ii 0),nl,(ii 0),nl,(ii 0),nl,(ii 0),nl,(ii 0),nl,(ii 0),nl,(ii 0),nl,(ii 0),nl,(ii 0),nl,(ii 0),nl,(ii 0),nl,(ii 0),nl,(ii 0),nl,(ii 0),nl,(ii 0),nl,(ii 0),nl,(ii 0),nl,(ii 0),nl,(ii 0),nl,(ii 0),nl,(ii 0),nl,(ii 0),nl,(ii 0),nl,(ii 0),nl,(ii 0),nl,(ii 0),nl,(ii 0),nl,(ii 0),nl,(ii 0),nl,(ii 0),nl,(ii 0),nl,(ii 0),nl,(ii 0),nl,(ii 0),nl,(ii 0),nl,(ii 0),nl,(ii 0),nl,(ii 0),nl,(ii 0),nl,(ii 0),nl,(ii 0),nl,(ii 0),nl,(ii 0),nl,(ii 0),nl,(ii 0),nl,(ii 0),nl,(ii 0),nl,(ii 0),nl,(ii 0),nl,(ii 0),nl,(ii 0),nl,(ii 0),nl,(ii 0),nl,(ii 0),nl,(ii 0),nl,(ii 0),nl,(ii 0),nl,(ii 0),nl,(ii 0),nl,(ii 0),nl,(ii 0),nl,(ii 0),nl,(ii 0),nl,(ii 0),nl,(ii 0),nl,(ii 0),nl,(ii 0),nl,(ii 0),nl,(ii 0),nl,(ii 0),nl,(ii 0),nl,(ii 0),nl,(ii 0),nl,(ii 0),nl,(ii 0),nl,(ii 0),nl,(ii 0),nl,(ii 0),nl,(ii 0),nl,(ii 0),nl,(ii 0),nl,(ii 0),nl,(ii 0),nl,(ii 0),nl,(ii 0),nl,(ii 0),nl,(ii 0),nl,(ii 0),nl,(ii 0),nl,(ii 0),nl,(ii 0),nl,(ii 0),nl,(ii 0),nl,(ii 0),nl,(ii 0),nl,(ii 0),nl,(ii 0),nl,(ii 0),nl,(ii 0),nl,(ii 0),nl,(ii 0),nl,(ii 0),nl,(ii 0),nl,(ii 0),nl,(ii 0),nl,(ii 0),nl,(ii 0),nl,(ii 0),nl,(ii 0),nl,(ii 0),nl,(ii 0),nl,(ii 0),nl,(ii 0),nl,(ii 0),nl,(ii 0),nl,(ii 0),nl,(ii 0),nl,(ii 0),nl,(ii 0),nl,(ii 0),nl,(ii 0),nl,(ii 0),nl,(ii 0),nl,(ii 0),nl,(ii 0),nl,(ii 0),nl,(ii 0),nl,(ii 0),nl,(ii 0),nl,(ii 0),nl,(ii 0),nl,(ii 0),nl,(ii 0),nl,(ii 0),nl,(ii 0),nl,(ii 0),nl,(ii 0),nl,(ii 0),nl,(ii 0),nl,(ii 0),nl,(ii 0),nl,(ii 0),nl,(ii 0),nl,(ii 0),nl,(ii 0),nl,(ii 0),nl,(ii 0),nl,(ii 0),nl,(ii 0),nl,(ii 0),nl,(ii 0),nl,(ii 0),nl,(ii 0),nl,(ii 0),nl,(ii 0),nl,(ii 0),nl,(ii 0),nl,(ii 0),nl,(ii 0),nl,(ii 0),nl,(ii 0),nl,(ii 0),nl,(ii 0),nl,(ii 0),nl,(ii 0),nl,(ii 0),nl,(ii 0),nl,(ii 0),nl,(ii 0),nl,(ii 0),nl,(ii 0),nl,(ii 0),nl,(ii 0),nl,(ii 0),nl,(ii 0),nl,(ii 0)]))),(396,(514,8208,(.agg #[(ii 0),(ii 0),nl,(ii 0),nl,(ii 0),nl,(ii 0),nl,(ii 0),nl,(ii 0),nl,(ii 0),nl,(ii 0),nl,(ii 0),nl,(ii 0),nl,(ii 0),nl,(ii 0),nl,(ii 0),nl,(ii 0),nl,(ii 0),nl,(ii 0),nl,(ii 0),nl,(ii 0),nl,(ii 0),nl,(ii 0),nl,(ii 0),nl,(ii 0),nl,(ii 0),nl,(ii 0),nl,(ii 0),nl,(ii 0),nl,(ii 0),nl,(ii 0),nl,(ii 0),nl,(ii 0),nl,(ii 0),nl,(ii 0),nl,(ii 0),nl,(ii 0),nl,(ii 0),nl,(ii 0),nl,(ii 0),nl,(ii 0),nl,(ii 0),nl,(ii 0),nl,(ii 0),nl,(ii 0),nl,(ii 0),nl,(ii 0),nl,(ii 0),nl,(ii 0),nl,(ii 0),nl,(ii 0),nl,(ii 0),nl,(ii 0),nl,(ii 0),nl,(ii 0),nl,(ii 0),nl,(ii 0),nl,(ii 0),nl,(ii 0),nl,(ii 0),nl,(ii 0),nl,(ii 0),nl,(ii 0),nl,(ii 0),nl,(ii 0),nl,(ii 0),nl,(ii 0),nl,(ii 0),nl,(ii 0),nl,(ii 0),nl,(ii 0),nl,(ii 0),nl,(ii 0),nl,(ii 0),nl,(ii 0),nl,(ii 0),nl,(ii 0),nl,(ii 0),nl,(ii 0),nl,(ii 0),nl,(ii 0),nl,(ii 0),nl,(ii 0),nl,(ii 0),nl,(ii 0),nl,(ii 0),nl,(ii 0),nl,(ii 0),nl,(ii 0),nl,(ii 0),nl,(ii 0),nl,(ii 0),nl,(ii 0),nl,(ii 0),nl,(ii 0),nl,(ii 0),nl,(ii 0),nl,(ii 0),nl,(ii 0),nl,(ii 0),nl,(ii 0),nl,(ii 0),nl,(ii 0),nl,(ii 0),nl,(ii 0),nl,(ii 0),nl,(ii 0),nl,(ii 0),nl,(ii 0),nl,(ii 0),nl,(ii 0),nl,(ii 0),nl,(ii 0),nl,(ii 0),nl,(ii 0),nl,(ii 0),nl,(ii 0),nl,(ii 0),nl,(ii 0),nl,(ii 0),nl,(ii 0),nl,(ii 0),nl,(ii 0),nl,(ii 0),nl,(ii 0),nl,(ii 0),nl,(ii 0),nl,(ii 0),nl,(ii 0),nl,(ii 0),nl,(ii 0),nl,(ii 0),nl,(ii 0),nl,(ii 0),nl,(ii 0),nl,(ii 0),nl,(ii 0),nl,(ii 0),nl,(ii 0),nl,(ii 0),nl,(ii 0),nl,(ii 0),nl,(ii 0),nl,(ii 0),nl,(ii 0),nl,(ii 0),nl,(ii 0),nl,(ii 0),nl,(ii 0),nl,(ii 0),nl,(ii 0),nl,(ii 0),nl,(ii 0),nl,(ii 0),nl,(ii 0),nl,(ii 0),nl,(ii 0),nl,(ii 0),nl,(ii 0),nl,(ii 0),nl,(ii 0),nl,(ii 0),nl,(ii 0),nl,(ii 0),nl,(ii 0),nl,(ii 0),nl,(ii 0),nl,(ii 0),nl,(ii 0),nl,(ii 0),nl,(ii 0),nl,(ii 0),nl,(ii 0),nl,(ii 0),nl,(ii 0),nl,(ii 0),nl,(ii 0),nl,(ii 0),nl,(ii 0),nl,(ii 0),nl,(ii 0),nl,(ii 0),nl,(ii 0),nl,(ii 0),nl,(ii 0),nl,(ii 0),nl,(ii 0),nl,(ii 0),nl,(ii 0),nl,(ii 0),nl,(ii 0),nl,(ii 0),nl,(ii 0),nl,(ii 0),nl,(ii 0),nl,(ii 0),nl,(ii 0),nl,(ii 0),nl,(ii 0),nl,(ii 0),nl,(ii 0),nl,(ii 0),nl,(ii 0),nl,(ii 0),nl,(ii 0),nl,(ii 0),nl,(ii 0),nl,(ii 0),nl,(ii 0),nl,(ii 0),nl,(ii 0),nl,(ii 0),nl,(ii 0),nl,(ii 0),nl,(ii 0),nl,(ii 0),nl,(ii 0),nl,(ii 0),nl,(ii 0),nl,(ii 0),nl,(ii 0),nl,(ii 0),nl,(ii 0),nl,(ii 0),nl,(ii 0),nl,(ii 0),nl,(ii 0),nl,(ii 0),nl,(ii 0),nl,(ii 0),nl,(ii 0),nl,(ii 0),nl,(ii 0),nl,(ii 0),nl,(ii 0),nl,(ii 0),nl,(ii 0),nl,(ii 0),nl,(ii 0),nl,(ii 0),nl,(ii 0),nl,(ii 0),nl,(ii 0),nl,(ii 0),nl,(ii 0),nl,(ii 0),nl,(ii 0),nl,(ii 0),nl,(ii 0),nl,(ii 0),nl,(ii 0),nl,(ii 0),nl,(ii 0),nl,(ii 0),nl,(ii 0),nl,(ii 0),nl,(ii 0),nl,(ii 0),nl,(ii 0),nl,(ii 0)])))]
abbrev aI:=Has Tryz.prog
theorem abF:aI 11:=aJ Tryz.func11
theorem kQ:aI 12:=aJ Tryz.func12
theorem abR:aI 13:=aJ Tryz.func13
theorem Ss:aI 14:=aJ Tryz.func14
theorem abV:aI 15:=aJ Tryz.func15
theorem ab0:aI 16:=aJ Tryz.func16
theorem ab6:aI 17:=aJ Tryz.func17
theorem aca:aI 18:=aJ Tryz.func18
theorem SJ:aI 19:=aJ Tryz.func19
theorem aco:aI 20:=aJ Tryz.func20
theorem SR:aI 21:=aJ Tryz.func21
theorem SV:aI 22:=aJ Tryz.func22
theorem acF:aI 23:=aJ Tryz.func23
theorem D_:aI 24:=aJ Tryz.func24
theorem S4:aI 25:=aJ Tryz.func25
theorem sb:aI 26:=aJ Tryz.func26
theorem ac7:aI 28:=aJ Tryz.func28
theorem ada:aI 29:=aJ Tryz.func29
theorem adm:aI 36:=aJ Tryz.func36
theorem adn:aI 41:=aJ Tryz.func41
theorem Tb:aI 42:=aJ Tryz.func42
theorem ado:aI 43:=aJ Tryz.func43
theorem adp:aI 44:=aJ Tryz.func44
theorem Nc:aI 45:=aJ Tryz.func45
theorem adq:aI 46:=aJ Tryz.func46
theorem AU:aI 47:=aJ Tryz.func47
theorem Tc:aI 48:=aJ Tryz.func48
theorem Nd:aI 49:=aJ Tryz.func49
theorem adr:aI 50:=aJ Tryz.func50
theorem ads:aI 51:=aJ Tryz.func51
theorem adt:aI 52:=aJ Tryz.func52
theorem Td:aI 53:=aJ Tryz.func53
theorem JK:aI 54:=aJ Tryz.func54
theorem adu:aI 55:=aJ Tryz.func55
theorem adv:aI 56:=aJ Tryz.func56
theorem Nf:aI 57:=aJ Tryz.func57
theorem Ng:aI 58:=aJ Tryz.func58
theorem Gl:aI 59:=aJ Tryz.func59
theorem Te:aI 61:=aJ Tryz.func61
theorem ql:aI 62:=aJ Tryz.func62
theorem Nh:aI 67:=aJ Tryz.func67
theorem Tf:aI 68:=aJ Tryz.func68
theorem Tg:aI 70:=aJ Tryz.func70
theorem adw:aI 71:=aJ Tryz.func71
theorem adx:aI 73:=aJ Tryz.func73
theorem Th:aI 74:=aJ Tryz.func74
theorem ady:aI 75:=aJ Tryz.func75
theorem adz:aI 76:=aJ Tryz.func76
theorem adA:aI 77:=aJ Tryz.func77
theorem Ni:aI 78:=aJ Tryz.func78
theorem Ti:aI 79:=aJ Tryz.func79
theorem adB:aI 80:=aJ Tryz.func80
theorem adC:aI 81:=aJ Tryz.func81
theorem adD:aI 82:=aJ Tryz.func82
theorem adE:aI 83:=aJ Tryz.func83
theorem adF:aI 84:=aJ Tryz.func84
theorem adG:aI 85:=aJ Tryz.func85
theorem adH:aI 86:=aJ Tryz.func86
theorem adI:aI 87:=aJ Tryz.func87
theorem vY:aI 88:=aJ Tryz.func88
theorem Tj:aI 89:=aJ Tryz.func89
theorem Tk:aI 90:=aJ Tryz.func90
theorem adJ:aI 91:=aJ Tryz.func91
theorem adK:aI 92:=aJ Tryz.func92
theorem JL:aI 93:=aJ Tryz.func93
theorem JM:aI 94:=aJ Tryz.func94
theorem Nj:aI 95:=aJ Tryz.func95
theorem Cj:aI 96:=aJ Tryz.func96
theorem adL:aI 97:=aJ Tryz.func97
theorem Sk:aI 100:=aJ Tryz.func100
theorem Sl:aI 101:=aJ Tryz.func101
theorem MT:aI 103:=aJ Tryz.func103
theorem abD:aI 104:=aJ Tryz.func104
theorem abE:aI 105:=aJ Tryz.func105
theorem JB:aI 106:=aJ Tryz.func106
theorem Sm:aI 107:=aJ Tryz.func107
theorem Sn:aI 108:=aJ Tryz.func108
theorem Sp:aI 109:=aJ Tryz.func109
theorem abG:aI 110:=aJ Tryz.func110
theorem MU:aI 111:=aJ Tryz.func111
theorem MV:aI 112:=aJ Tryz.func112
theorem JC:aI 113:=aJ Tryz.func113
theorem abH:aI 114:=aJ Tryz.func114
theorem abI:aI 115:=aJ Tryz.func115
theorem abJ:aI 116:=aJ Tryz.func116
theorem MW:aI 117:=aJ Tryz.func117
theorem Sq:aI 118:=aJ Tryz.func118
theorem abK:aI 119:=aJ Tryz.func119
theorem abL:aI 120:=aJ Tryz.func120
theorem abM:aI 121:=aJ Tryz.func121
theorem Cg:aI 122:=aJ Tryz.func122
theorem MX:aI 123:=aJ Tryz.func123
theorem Sr:aI 124:=aJ Tryz.func124
theorem MY:aI 125:=aJ Tryz.func125
theorem abN:aI 126:=aJ Tryz.func126
theorem abO:aI 127:=aJ Tryz.func127
theorem abP:aI 128:=aJ Tryz.func128
theorem abQ:aI 129:=aJ Tryz.func129
theorem Ch:aI 136:=aJ Tryz.func136
theorem Ci:aI 137:=aJ Tryz.func137
theorem St:aI 140:=aJ Tryz.func140
theorem vX:aI 141:=aJ Tryz.func141
theorem Su:aI 142:=aJ Tryz.func142
theorem abS:aI 143:=aJ Tryz.func143
theorem D9:aI 144:=aJ Tryz.func144
theorem Sv:aI 145:=aJ Tryz.func145
theorem abT:aI 146:=aJ Tryz.func146
theorem abU:aI 147:=aJ Tryz.func147
theorem Sw:aI 148:=aJ Tryz.func148
theorem Sy:aI 149:=aJ Tryz.func149
theorem Sz:aI 150:=aJ Tryz.func150
theorem SA:aI 151:=aJ Tryz.func151
theorem abW:aI 152:=aJ Tryz.func152
theorem SB:aI 153:=aJ Tryz.func153
theorem Gg:aI 154:=aJ Tryz.func154
theorem abX:aI 155:=aJ Tryz.func155
theorem abY:aI 156:=aJ Tryz.func156
theorem SC:aI 157:=aJ Tryz.func157
theorem MZ:aI 158:=aJ Tryz.func158
theorem abZ:aI 159:=aJ Tryz.func159
theorem SD:aI 160:=aJ Tryz.func160
theorem SE:aI 161:=aJ Tryz.func161
theorem ab1:aI 162:=aJ Tryz.func162
theorem ab2:aI 163:=aJ Tryz.func163
theorem SF:aI 164:=aJ Tryz.func164
theorem Gh:aI 165:=aJ Tryz.func165
theorem ab3:aI 166:=aJ Tryz.func166
theorem ab4:aI 167:=aJ Tryz.func167
theorem ab5:aI 168:=aJ Tryz.func168
theorem uR:aI 171:=aJ Tryz.func171
theorem Gi:aI 172:=aJ Tryz.func172
theorem JD:aI 173:=aJ Tryz.func173
theorem ab7:aI 174:=aJ Tryz.func174
theorem JE:aI 175:=aJ Tryz.func175
theorem ab8:aI 176:=aJ Tryz.func176
theorem ab9:aI 177:=aJ Tryz.func177
theorem ab_:aI 178:=aJ Tryz.func178
theorem ab':aI 179:=aJ Tryz.func179
theorem Gj:aI 180:=aJ Tryz.func180
theorem acb:aI 181:=aJ Tryz.func181
theorem acd:aI 182:=aJ Tryz.func182
theorem SG:aI 183:=aJ Tryz.func183
theorem ace:aI 184:=aJ Tryz.func184
theorem acf:aI 185:=aJ Tryz.func185
theorem JF:aI 186:=aJ Tryz.func186
theorem SH:aI 187:=aJ Tryz.func187
theorem acg:aI 188:=aJ Tryz.func188
theorem SI:aI 189:=aJ Tryz.func189
theorem M0:aI 190:=aJ Tryz.func190
theorem ach:aI 191:=aJ Tryz.func191
theorem aci:aI 192:=aJ Tryz.func192
theorem acj:aI 193:=aJ Tryz.func193
theorem M1:aI 194:=aJ Tryz.func194
theorem SK:aI 195:=aJ Tryz.func195
theorem SL:aI 196:=aJ Tryz.func196
theorem ack:aI 197:=aJ Tryz.func197
theorem acm:aI 198:=aJ Tryz.func198
theorem acn:aI 199:=aJ Tryz.func199
theorem acp:aI 200:=aJ Tryz.func200
theorem SM:aI 201:=aJ Tryz.func201
theorem SN:aI 202:=aJ Tryz.func202
theorem acq:aI 203:=aJ Tryz.func203
theorem M3:aI 204:=aJ Tryz.func204
theorem SP:aI 205:=aJ Tryz.func205
theorem SQ:aI 206:=aJ Tryz.func206
theorem AR:aI 207:=aJ Tryz.func207
theorem acr:aI 208:=aJ Tryz.func208
theorem acs:aI 210:=aJ Tryz.func210
theorem acu:aI 211:=aJ Tryz.func211
theorem acv:aI 212:=aJ Tryz.func212
theorem SS:aI 213:=aJ Tryz.func213
theorem acw:aI 214:=aJ Tryz.func214
theorem acx:aI 215:=aJ Tryz.func215
theorem SU:aI 216:=aJ Tryz.func216
theorem JG:aI 217:=aJ Tryz.func217
theorem JH:aI 218:=aJ Tryz.func218
theorem acy:aI 219:=aJ Tryz.func219
theorem JI:aI 220:=aJ Tryz.func220
theorem acz:aI 221:=aJ Tryz.func221
theorem acA:aI 222:=aJ Tryz.func222
theorem acB:aI 223:=aJ Tryz.func223
theorem SX:aI 224:=aJ Tryz.func224
theorem acC:aI 225:=aJ Tryz.func225
theorem acD:aI 226:=aJ Tryz.func226
theorem M4:aI 227:=aJ Tryz.func227
theorem SY:aI 228:=aJ Tryz.func228
theorem acE:aI 229:=aJ Tryz.func229
theorem acG:aI 230:=aJ Tryz.func230
theorem acH:aI 231:=aJ Tryz.func231
theorem acI:aI 232:=aJ Tryz.func232
theorem acJ:aI 233:=aJ Tryz.func233
theorem acK:aI 234:=aJ Tryz.func234
theorem acL:aI 235:=aJ Tryz.func235
theorem acM:aI 236:=aJ Tryz.func236
theorem M5:aI 237:=aJ Tryz.func237
theorem acN:aI 238:=aJ Tryz.func238
theorem M6:aI 239:=aJ Tryz.func239
theorem acO:aI 240:=aJ Tryz.func240
theorem acP:aI 241:=aJ Tryz.func241
theorem acQ:aI 242:=aJ Tryz.func242
theorem SZ:aI 243:=aJ Tryz.func243
theorem acR:aI 244:=aJ Tryz.func244
theorem S0:aI 245:=aJ Tryz.func245
theorem acS:aI 246:=aJ Tryz.func246
theorem S3:aI 247:=aJ Tryz.func247
theorem M7:aI 248:=aJ Tryz.func248
theorem acT:aI 249:=aJ Tryz.func249
theorem S5:aI 250:=aJ Tryz.func250
theorem acU:aI 251:=aJ Tryz.func251
theorem acV:aI 252:=aJ Tryz.func252
theorem acW:aI 253:=aJ Tryz.func253
theorem acX:aI 254:=aJ Tryz.func254
theorem acY:aI 255:=aJ Tryz.func255
theorem acZ:aI 264:=aJ Tryz.func264
theorem JJ:aI 265:=aJ Tryz.func265
theorem ac0:aI 266:=aJ Tryz.func266
theorem ac1:aI 267:=aJ Tryz.func267
theorem ac2:aI 269:=aJ Tryz.func269
theorem S6:aI 270:=aJ Tryz.func270
theorem ac3:aI 271:=aJ Tryz.func271
theorem ac4:aI 272:=aJ Tryz.func272
theorem M8:aI 273:=aJ Tryz.func273
theorem M9:aI 274:=aJ Tryz.func274
theorem ac5:aI 275:=aJ Tryz.func275
theorem ac6:aI 276:=aJ Tryz.func276
theorem xB:aI 277:=aJ Tryz.func277
theorem M_:aI 278:=aJ Tryz.func278
theorem S7:aI 279:=aJ Tryz.func279
theorem S8:aI 280:=aJ Tryz.func280
theorem ac8:aI 281:=aJ Tryz.func281
theorem ac9:aI 282:=aJ Tryz.func282
theorem ac_:aI 288:=aJ Tryz.func288
theorem ac':aI 289:=aJ Tryz.func289
theorem adb:aI 290:=aJ Tryz.func290
theorem S9:aI 291:=aJ Tryz.func291
theorem S_:aI 292:=aJ Tryz.func292
theorem Na:aI 293:=aJ Tryz.func293
theorem Gk:aI 294:=aJ Tryz.func294
theorem ade:aI 295:=aJ Tryz.func295
theorem adf:aI 297:=aJ Tryz.func297
theorem adg:aI 299:=aJ Tryz.func299
theorem adh:aI 300:=aJ Tryz.func300
theorem Ta:aI 301:=aJ Tryz.func301
theorem adi:aI 302:=aJ Tryz.func302
theorem adj:aI 303:=aJ Tryz.func303
theorem adk:aI 304:=aJ Tryz.func304
theorem adl:aI 305:=aJ Tryz.func305
theorem mix:Tryz.prog.follows .mixedOrders=true:=aA
theorem ahM:Tryz.prog.stoodInHeld 94=false/\Tryz.prog.eqGuardType Tryz.prog.depth 94=false:=⟨by kernel_rfl,by kernel_rfl⟩
theorem Pm:Tryz.prog.stoodInHeld 285=false/\Tryz.prog.eqGuardType Tryz.prog.depth 285=false:=⟨by kernel_rfl,by kernel_rfl⟩
@[reducible] def XO (o : Option gx) (v : Value) (G : List Hp) : Prop := match o with
 |none=>v= .pointer none/\G=[]
 |some x=> ∃(b:Nat) (a0 n0 H0:_) (a1:Nat) (H1:Hp),ak kS 278 x.aw a0 n0 H0/\cU (Ky.pair T .i64 rfl rfl rfl lV u3) (λx:Int=>Value.int .i64 x) x.fj a1 H1/\v= .pointer (some ⟨b,0,none⟩)/\G=[(cl b 238 [(ii x.k),(ll a0 x.aw n0),(.map (some a1)),(ii x.cJ),(ii x.dr)]),H0,H1]
def sX (x:ju) (b:Nat) (H:Hp):Prop:= ∃(b0:Nat) (a1 n1 H1:_) (a2:Nat) (H2:Hp) (a3 n3 H3:_),ak kS 278 x.keys.aw a1 n1 H1/\cU (Ky.pair T .i64 rfl rfl rfl lV u3) (λx:Int=>Value.int .i64 x) x.keys.fj a2 H2/\gK EC 291 x.fields a3 n3 H3/\H=List.flatten [(cl b 173 [(pp b0),(ll a3 x.fields n3),(uu x.count.bJ),(uu x.count.bK),(uu x.count.bH),(uu x.count.bF),(uu x.count.bU),(uu x.count.bO)]),(cl b0 238 [(ii x.keys.k),(ll a1 x.keys.aw n1),(.map (some a2)),(ii x.keys.cJ),(ii x.keys.dr)]),H1,H2,H3]
@[reducible] def XU (o : Option ju) (v : Value) (G : List Hp) : Prop := match o with
 |none=>v= .pointer none/\G=[]
 |some x=> ∃(b:Nat) (H:Hp),sX x b H/\v= .pointer (some ⟨b,0,none⟩)/\G=[H]
def iH (x:bw) (b:Nat) (H:Hp):Prop:= ∃a0 n0 H0 a1 n1 H1,ak (Fl.int .u8) 5 x.m.C a0 n0 H0/\ak (Fl.int .i64) 2 x.p7 a1 n1 H1/\H=List.flatten [(cl b 167 [(ii x.m.W),(ii x.m.H),(ll a0 x.m.C n0),(ii x.bS),(ll a1 x.p7 n1)]),H0,H1]
def mZ (x:dK) (b:Nat) (l0:Nat) (H:Hp):Prop:= ∃a0 n0 H0,gK ON 217 x.parts a0 n0 H0/\H=List.flatten [(cl b 213 [(pp l0),(ll a0 x.parts n0),(ii x.clean),(uu x.count)]),H0]
def Lt (o:Option gI) (l0:Nat) (l1:Nat) (v0:Value) (H:Hp):Prop:=match o with
 |none=>v0= .pointer none/\H=[]
 |some y=> ∃(b0:Nat) (a1 n1 H1:_),ak (Fl.int .i32) 21 y.aN a1 n1 H1/\v0=(pp b0)/\H=List.flatten [(cl b0 235 [(ii y.goal),(ii y.bS),(ll a1 y.aN n1)]),H1]
def uw (x:jY) (b:Nat) (l0:Nat) (l1:Nat) (H:Hp):Prop:= ∃(v0:Value) (Ho:Hp),Lt x.kept l0 l1 v0 Ho/\H=List.flatten [(cl b 233 [(pp l0),(pp l1),v0,(uu x.count)]),Ho]
def vA (o:Option fe) (v0 v1 v2:Value) (H:Hp):Prop:=match o with
 |none=>v0= .pointer none/\v1= .pointer none/\v2= .pointer none/\H=[]
 |some y=> ∃(b0:Nat) (H0:Hp) (b1:Nat) (H1:Hp) (b2:Nat) (H2:Hp),iH y.aL b0 H0/\mZ y.jq b1 b0 H1/\uw y.kO b2 b1 b0 H2/\v0=(pp b0)/\v1=(pp b1)/\v2=(pp b2)/\H=List.flatten [H0,H1,H2]
def gT (x:cF) (b:Nat) (H:Hp):Prop:= ∃(b0:Nat) (H0:Hp) (v0 v1 v2:Value) (Ho:Hp),sX x.hZ b0 H0/\vA x.core v0 v1 v2 Ho/\H=List.flatten [(cl b 135 [v0,v1,v2,(pp b0),(uu x.aU.bJ),(uu x.aU.bK),(uu x.aU.bH),(uu x.aU.bF),(uu x.aU.bU),(uu x.aU.bO)]),H0,Ho]
@[reducible] def XQ (o : Option cF) (v : Value) (G : List Hp) : Prop := match o with
 |none=>v= .pointer none/\G=[]
 |some x=> ∃(b:Nat) (H:Hp),gT x b H/\v= .pointer (some ⟨b,0,none⟩)/\G=[H]
def lY (x:ft) (b:Nat) (H:Hp):Prop:= ∃(b0:Nat) (a1:Nat) (H1:Hp) (a2 n2 H2:_) (b3:Nat) (a4 n4 H4:_),cU (Ky.int .i64 u3) (λx:bB=>Value.agg #[.int .i64 x.Id,.int .i64 x.Cell,.int .i64 x.Goal]) x.eV.live a1 H1/\ak (Fl.int .i64) 3 x.eV.order a2 n2 H2/\ak (Fl.int .u32) 65 x.floor.words a4 n4 H4/\H=List.flatten [(cl b 146 [(ii x.w),(ii x.h),(ii x.most),(pp b0),(pp b3)]),(cl b0 178 [(ii x.eV.most),(ii x.eV.next),(.map (some a1)),(ll a2 x.eV.order n2)]),H1,H2,(cl b3 221 [(ll a4 x.floor.words n4),(ii x.floor.count)]),H4]
def BJ (o:Option ft) (v0:Value) (H:Hp):Prop:=match o with
 |none=>v0= .pointer none/\H=[]
 |some y=> ∃(b0:Nat) (H0:Hp),lY y b0 H0/\v0=(pp b0)/\H=List.flatten [H0]
def fR (x:cm) (b:Nat) (H:Hp):Prop:= ∃(b0:Nat) (H0:Hp) (v0:Value) (Ho:Hp),gT x.nav b0 H0/\BJ x.fB v0 Ho/\H=List.flatten [(cl b 103 [(ii x.most),(pp b0),v0]),H0,Ho]
@[reducible] def P3 (o : Option cm) (v : Value) (G : List Hp) : Prop := match o with
 |none=>v= .pointer none/\G=[]
 |some x=> ∃(b:Nat) (H:Hp),fR x b H/\v= .pointer (some ⟨b,0,none⟩)/\G=[H]
@[reducible] def XM (o : Option bw) (v : Value) (G : List Hp) : Prop := match o with
 |none=>v= .pointer none/\G=[]
 |some x=> ∃(b:Nat) (H:Hp),iH x b H/\v= .pointer (some ⟨b,0,none⟩)/\G=[H]
@[reducible] def XP (w0 : Nat) (o : Option dK) (v : Value) (G : List Hp) : Prop := match o with
 |none=>v= .pointer none/\G=[]
 |some x=> ∃(b:Nat) (H:Hp),mZ x b w0 H/\v= .pointer (some ⟨b,0,none⟩)/\G=[H]
@[reducible] def XS (w0 : Nat) (w1 : Nat) (o : Option jY) (v : Value) (G : List Hp) : Prop := match o with
 |none=>v= .pointer none/\G=[]
 |some x=> ∃(b:Nat) (H:Hp),uw x b w0 w1 H/\v= .pointer (some ⟨b,0,none⟩)/\G=[H]
@[reducible] def XV (o : Option fI) (v : Value) (G : List Hp) : Prop := match o with
 |none=>v= .pointer none/\G=[]
 |some x=> ∃(b:Nat) (a0:Nat) (H0:Hp) (a1 n1 H1:_),cU (Ky.int .i64 u3) (λx:bB=>Value.agg #[.int .i64 x.Id,.int .i64 x.Cell,.int .i64 x.Goal]) x.live a0 H0/\ak (Fl.int .i64) 3 x.order a1 n1 H1/\v= .pointer (some ⟨b,0,none⟩)/\G=[(cl b 178 [(ii x.most),(ii x.next),(.map (some a0)),(ll a1 x.order n1)]),H0,H1]
@[reducible] def XL (o : Option km) (v : Value) (G : List Hp) : Prop := match o with
 |none=>v= .pointer none/\G=[]
 |some x=> ∃(b:Nat) (a0 n0 H0:_),ak (Fl.int .u32) 65 x.words a0 n0 H0/\v= .pointer (some ⟨b,0,none⟩)/\G=[(cl b 221 [(ll a0 x.words n0),(ii x.count)]),H0]
@[reducible] def XK (o : Option ft) (v : Value) (G : List Hp) : Prop := match o with
 |none=>v= .pointer none/\G=[]
 |some x=> ∃(b:Nat) (H:Hp),lY x b H/\v= .pointer (some ⟨b,0,none⟩)/\G=[H]
def kG (x:eU) (b:Nat) (H:Hp):Prop:=yL V0 [.int .i64 x.aZ,.int .i64 x.len] x.buckets b 396 H/\List.length x.buckets=256
@[reducible] def XR (o : Option eU) (v : Value) (G : List Hp) : Prop := match o with
 |none=>v= .pointer none/\G=[]
 |some x=> ∃(b:Nat) (H:Hp),kG x b H/\v= .pointer (some ⟨b,0,none⟩)/\G=[H]
@[reducible] def XN (o : Option eJ) (v : Value) (G : List Hp) : Prop := match o with
 |none=>v= .pointer none/\G=[]
 |some x=> ∃(b:Nat) (a0 n0 H0:_),ak fN 359 x.l a0 n0 H0/\v= .pointer (some ⟨b,0,none⟩)/\G=[(cl b 357 [(ll a0 x.l n0)]),H0]
@[reducible] def XT (o : Option gI) (v : Value) (G : List Hp) : Prop := match o with
 |none=>v= .pointer none/\G=[]
 |some x=> ∃(b:Nat) (a0 n0 H0:_),ak (Fl.int .i32) 21 x.aN a0 n0 H0/\v= .pointer (some ⟨b,0,none⟩)/\G=[(cl b 235 [(ii x.goal),(ii x.bS),(ll a0 x.aN n0)]),H0]
def XW (r:Option gI) (x:jY) (b:Nat) (l0:Nat) (l1:Nat) (u:Value) (H:Hp):Prop:=match r with
 |none=>u= .pointer none/\uw x b l0 l1 H
 |some y=>x.kept=some y/\ ∃(b0:Nat) (a1 n1 H1:_),ak (Fl.int .i32) 21 y.aN a1 n1 H1/\u= .pointer (some ⟨b0,0,none⟩)/\H=List.flatten [(cl b 233 [(pp l0),(pp l1),(pp b0),(uu x.count)]),List.flatten [(cl b0 235 [(ii y.goal),(ii y.bS),(ll a1 y.aN n1)]),H1]]
abbrev QR:=CR Tryz.prog
abbrev QU:=CU Tryz.prog
abbrev bk:=Value->List Hp->Prop
theorem dw {p:Prop} (h:p:=by first|rfl|(simp only[ll,List.length_set];rfl)):p:=h
end Go.Proofs.YthodkonhneebbaaGreatDoor
