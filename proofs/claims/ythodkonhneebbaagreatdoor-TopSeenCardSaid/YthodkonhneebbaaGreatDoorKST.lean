/- Part of the proof. No condition. -/
import Derived.Test.YthodkonhneebbaaGreatDoorProg
import Derived.KernelRfl
import Derived.Test.YthodkonhneebbaaGreatDoorKSErrs
import Derived.Test.YthodkonhneebbaaGreatDoorKSHz
namespace Go.Proofs.YthodkonhneebbaaGreatDoor
open Go.Hx
set_option maxRecDepth 100000
set_option linter.unusedSimpArgs false
set_option linter.unusedVariables false
structure tj where
 Kind:Int
 A:Int
 B:Int
instance :Inhabited tj:=⟨⟨default,default,default⟩⟩
def Ha:Fl tj:=⟨3,λx=>[.int .i64 x.Kind,.int .i64 x.A,.int .i64 x.B],λ_=>rfl,λ_ v h=>by
 simp only[List.mem_cons,List.not_mem_nil,or_false] at h;rcases h with rfl |rfl |rfl<;>rfl,Nat.le_of_ble_eq_true rfl⟩
structure cR where
 Kind:Int
 A:Int
 B:Int
 Map:(List Int)
instance :Inhabited cR:=⟨⟨default,default,default,default⟩⟩
def HP:Kd cR where
 size:=4
 own:=λx cs H=> ∃a0 n0 H0,aj (Fl.int .u8) 5 x.Map a0 n0 H0/\cs=[.int .i64 x.Kind,.int .i64 x.A,.int .i64 x.B,.slice a0 (List.length x.Map) n0]/\H=List.flatten [H0]
 mJ:=λx cs H=> ∃(a0:Option Addr) (n0:Nat),(aP (Fl.int .u8) x.Map a0 H/\List.length x.Map<=n0)/\cs=[.int .i64 x.Kind,.int .i64 x.A,.int .i64 x.B,.slice a0 (List.length x.Map) n0]
 len:=by
  rintro x cs H ⟨a0,n0,H0,s0,rfl,rfl⟩
  rfl
 plain:=by
  rintro x cs H ⟨a0,n0,H0,s0,rfl,rfl⟩ v hv;simp only[List.mem_cons,List.not_mem_nil,or_false] at hv;rcases hv with rfl |rfl |rfl |rfl<;>rfl
 r:=by
  rintro x cs H ⟨a0,n0,H0,s0,rfl,rfl⟩;exact⟨a0,n0,⟨s0.r.mono (λc hc=>gx (HL:=[H0]) (j:=0) rfl hc),s0.bT⟩,rfl⟩
 mono:=by
  rintro x cs H H' ⟨a0,n0,⟨r0,c0⟩,rfl⟩ hs;exact⟨a0,n0,⟨r0.mono hs,c0⟩,rfl⟩
 pos:=by decide
structure aL where
 W:Int
 H:Int
 C:(List Int)
instance :Inhabited aL:=⟨⟨default,default,default⟩⟩
structure bo where
 key:(Int×Int)
 cM:Int
 aZ:Int
instance :Inhabited bo:=⟨⟨default,default,default⟩⟩
def kI:Fl bo:=⟨4,λx=>[.int .i64 x.key.1,.int .i64 x.key.2,.int .i64 x.cM,.int .i64 x.aZ],λ_=>rfl,λ_ v h=>by
 simp only[List.mem_cons,List.not_mem_nil,or_false] at h;rcases h with rfl |rfl |rfl |rfl<;>rfl,Nat.le_of_ble_eq_true rfl⟩
structure gh where
 k:Int
 ak:(List bo)
 fj:(List ((Int×Int)×Int))
 cE:Int
 dt:Int
instance :Inhabited gh:=⟨⟨default,default,default,default,default⟩⟩
structure a_ where
 Cell:Int
 cO:Int
 Key:Int
instance :Inhabited a_:=⟨⟨default,default,default⟩⟩
def cL:Fl a_:=⟨3,λx=>[.int .i64 x.Cell,.int .i64 x.cO,.int .i64 x.Key],λ_=>rfl,λ_ v h=>by
 simp only[List.mem_cons,List.not_mem_nil,or_false] at h;rcases h with rfl |rfl |rfl<;>rfl,Nat.le_of_ble_eq_true rfl⟩
structure fR where
 fc:(List Int)
 bX:(List Int)
instance :Inhabited fR:=⟨⟨default,default⟩⟩
structure qu where
 version:Int
 ua:(List a_)
 field:fR
instance :Inhabited qu:=⟨⟨default,default,default⟩⟩
structure fZ where
 bA:Int
 bB:Int
 bz:Int
 bw:Int
 bF:Int
 bD:Int
instance :Inhabited fZ:=⟨⟨default,default,default,default,default,default⟩⟩
structure jD where
 keys:gh
 fields:(List qu)
 count:fZ
instance :Inhabited jD:=⟨⟨default,default,default⟩⟩
def EY:Kd qu where
 size:=4
 own:=λx cs H=> ∃a0 n0 H0 a1 n1 H1 a2 n2 H2,aj cL 285 x.ua a0 n0 H0/\aj (Fl.int .i64) 3 x.field.fc a1 n1 H1/\aj (Fl.int .i64) 3 x.field.bX a2 n2 H2/\cs=[.int .i64 x.version,.slice a0 (List.length x.ua) n0,.slice a1 (List.length x.field.fc) n1,.slice a2 (List.length x.field.bX) n2]/\H=List.flatten [H0,H1,H2]
 mJ:=λx cs H=> ∃(a0:Option Addr) (n0:Nat) (a1:Option Addr) (n1:Nat) (a2:Option Addr) (n2:Nat),(aP cL x.ua a0 H/\List.length x.ua<=n0)/\(aP (Fl.int .i64) x.field.fc a1 H/\List.length x.field.fc<=n1)/\(aP (Fl.int .i64) x.field.bX a2 H/\List.length x.field.bX<=n2)/\cs=[.int .i64 x.version,.slice a0 (List.length x.ua) n0,.slice a1 (List.length x.field.fc) n1,.slice a2 (List.length x.field.bX) n2]
 len:=by
  rintro x cs H ⟨a0,n0,H0,a1,n1,H1,a2,n2,H2,s0,s1,s2,rfl,rfl⟩
  rfl
 plain:=by
  rintro x cs H ⟨a0,n0,H0,a1,n1,H1,a2,n2,H2,s0,s1,s2,rfl,rfl⟩ v hv;simp only[List.mem_cons,List.not_mem_nil,or_false] at hv;rcases hv with rfl |rfl |rfl |rfl<;>rfl
 r:=by
  rintro x cs H ⟨a0,n0,H0,a1,n1,H1,a2,n2,H2,s0,s1,s2,rfl,rfl⟩;exact⟨a0,n0,a1,n1,a2,n2,⟨s0.r.mono (λc hc=>gx (HL:=[H0,H1,H2]) (j:=0) rfl hc),s0.bT⟩,⟨s1.r.mono (λc hc=>gx (HL:=[H0,H1,H2]) (j:=1) rfl hc),s1.bT⟩,⟨s2.r.mono (λc hc=>gx (HL:=[H0,H1,H2]) (j:=2) rfl hc),s2.bT⟩,rfl⟩
 mono:=by
  rintro x cs H H' ⟨a0,n0,a1,n1,a2,n2,⟨r0,c0⟩,⟨r1,c1⟩,⟨r2,c2⟩,rfl⟩ hs;exact⟨a0,n0,a1,n1,a2,n2,⟨r0.mono hs,c0⟩,⟨r1.mono hs,c1⟩,⟨r2.mono hs,c2⟩,rfl⟩
 pos:=by decide
structure bC where
 m:aL
 bM:Int
 pS:(List Int)
instance :Inhabited bC:=⟨⟨default,default,default⟩⟩
structure pC where
 version:Int
 nodes:(List Int)
 aQ:(List Int)
instance :Inhabited pC:=⟨⟨default,default,default⟩⟩
structure dM where
 parts:(List pC)
 clean:Int
 count:Int
instance :Inhabited dM:=⟨⟨default,default,default⟩⟩
structure ic where
 goal:Int
 bM:Int
 aQ:(List Int)
instance :Inhabited ic:=⟨⟨default,default,default⟩⟩
structure ki where
 kept:(Option ic)
 count:Int
instance :Inhabited ki:=⟨⟨default,default⟩⟩
structure d_ where
 aB:bC
 iK:dM
 jg:ki
instance :Inhabited d_:=⟨⟨default,default,default⟩⟩
structure bV where
 core:(Option d_)
 fV:jD
 aV:fZ
instance :Inhabited bV:=⟨⟨default,default,default⟩⟩
def Po:Kd pC where
 size:=3
 own:=λx cs H=> ∃a0 n0 H0 a1 n1 H1,aj (Fl.int .i64) 3 x.nodes a0 n0 H0/\aj (Fl.int .i32) 21 x.aQ a1 n1 H1/\cs=[.int .i64 x.version,.slice a0 (List.length x.nodes) n0,.slice a1 (List.length x.aQ) n1]/\H=List.flatten [H0,H1]
 mJ:=λx cs H=> ∃(a0:Option Addr) (n0:Nat) (a1:Option Addr) (n1:Nat),(aP (Fl.int .i64) x.nodes a0 H/\List.length x.nodes<=n0)/\(aP (Fl.int .i32) x.aQ a1 H/\List.length x.aQ<=n1)/\cs=[.int .i64 x.version,.slice a0 (List.length x.nodes) n0,.slice a1 (List.length x.aQ) n1]
 len:=by
  rintro x cs H ⟨a0,n0,H0,a1,n1,H1,s0,s1,rfl,rfl⟩
  rfl
 plain:=by
  rintro x cs H ⟨a0,n0,H0,a1,n1,H1,s0,s1,rfl,rfl⟩ v hv;simp only[List.mem_cons,List.not_mem_nil,or_false] at hv;rcases hv with rfl |rfl |rfl<;>rfl
 r:=by
  rintro x cs H ⟨a0,n0,H0,a1,n1,H1,s0,s1,rfl,rfl⟩;exact⟨a0,n0,a1,n1,⟨s0.r.mono (λc hc=>gx (HL:=[H0,H1]) (j:=0) rfl hc),s0.bT⟩,⟨s1.r.mono (λc hc=>gx (HL:=[H0,H1]) (j:=1) rfl hc),s1.bT⟩,rfl⟩
 mono:=by
  rintro x cs H H' ⟨a0,n0,a1,n1,⟨r0,c0⟩,⟨r1,c1⟩,rfl⟩ hs;exact⟨a0,n0,a1,n1,⟨r0.mono hs,c0⟩,⟨r1.mono hs,c1⟩,rfl⟩
 pos:=by decide
structure aF where
 Id:Int
 Cell:Int
 Goal:Int
instance :Inhabited aF:=⟨⟨default,default,default⟩⟩
def lQ:Fl aF:=⟨3,λx=>[.int .i64 x.Id,.int .i64 x.Cell,.int .i64 x.Goal],λ_=>rfl,λ_ v h=>by
 simp only[List.mem_cons,List.not_mem_nil,or_false] at h;rcases h with rfl |rfl |rfl<;>rfl,Nat.le_of_ble_eq_true rfl⟩
structure fk where
 most:Int
 next:Int
 live:(List (Int×aF))
 order:(List Int)
instance :Inhabited fk:=⟨⟨default,default,default,default⟩⟩
structure fA where
 words:(List Int)
 count:Int
instance :Inhabited fA:=⟨⟨default,default⟩⟩
structure dN where
 w:Int
 h:Int
 most:Int
 cU:fk
 floor:fA
instance :Inhabited dN:=⟨⟨default,default,default,default,default⟩⟩
structure bH where
 most:Int
 nav:bV
 cZ:(Option dN)
instance :Inhabited bH:=⟨⟨default,default,default⟩⟩
structure eD where
 Id:Int
 To:Int
instance :Inhabited eD:=⟨⟨default,default⟩⟩
def iJ:Fl eD:=⟨2,λx=>[.int .i64 x.Id,.int .i64 x.To],λ_=>rfl,λ_ v h=>by
 simp only[List.mem_cons,List.not_mem_nil,or_false] at h;rcases h with rfl |rfl<;>rfl,Nat.le_of_ble_eq_true rfl⟩
structure eI where
 Code:Int
 D:Int
 bX:Int
 Id:Int
 cF:(List eD)
 di:(List Int)
 Stats:fZ
instance :Inhabited eI:=⟨⟨default,default,default,default,default,default,default⟩⟩
structure Bc where
 a:Int
 b:Int
 load:Bool
instance :Inhabited Bc:=⟨⟨default,default,default⟩⟩
structure fb where
 b:(List Int)
 ba:Int
instance :Inhabited fb:=⟨⟨default,default⟩⟩
structure jY where
 items:(List Int)
 gone:Int
instance :Inhabited jY:=⟨⟨default,default⟩⟩
def WS:Kd jY where
 size:=2
 own:=λx cs H=> ∃a0 n0 H0,aj (Fl.int .i64) 3 x.items a0 n0 H0/\cs=[.slice a0 (List.length x.items) n0,.int .i64 x.gone]/\H=List.flatten [H0]
 mJ:=λx cs H=> ∃(a0:Option Addr) (n0:Nat),(aP (Fl.int .i64) x.items a0 H/\List.length x.items<=n0)/\cs=[.slice a0 (List.length x.items) n0,.int .i64 x.gone]
 len:=by
  rintro x cs H ⟨a0,n0,H0,s0,rfl,rfl⟩
  rfl
 plain:=by
  rintro x cs H ⟨a0,n0,H0,s0,rfl,rfl⟩ v hv;simp only[List.mem_cons,List.not_mem_nil,or_false] at hv;rcases hv with rfl |rfl<;>rfl
 r:=by
  rintro x cs H ⟨a0,n0,H0,s0,rfl,rfl⟩;exact⟨a0,n0,⟨s0.r.mono (λc hc=>gx (HL:=[H0]) (j:=0) rfl hc),s0.bT⟩,rfl⟩
 mono:=by
  rintro x cs H H' ⟨a0,n0,⟨r0,c0⟩,rfl⟩ hs;exact⟨a0,n0,⟨r0.mono hs,c0⟩,rfl⟩
 pos:=by decide
structure eO where
 ba:Int
 len:Int
 buckets:(List jY)
instance :Inhabited eO:=⟨⟨default,default,default⟩⟩
def Fi:List Int:=[0,1,2,2,3,3,3,3,4,4,4,4,4,4,4,4,5,5,5,5,5,5,5,5,5,5,5,5,5,5,5,5,6,6,6,6,6,6,6,6,6,6,6,6,6,6,6,6,6,6,6,6,6,6,6,6,6,6,6,6,6,6,6,6,7,7,7,7,7,7,7,7,7,7,7,7,7,7,7,7,7,7,7,7,7,7,7,7,7,7,7,7,7,7,7,7,7,7,7,7,7,7,7,7,7,7,7,7,7,7,7,7,7,7,7,7,7,7,7,7,7,7,7,7,7,7,7,7,8,8,8,8,8,8,8,8,8,8,8,8,8,8,8,8,8,8,8,8,8,8,8,8,8,8,8,8,8,8,8,8,8,8,8,8,8,8,8,8,8,8,8,8,8,8,8,8,8,8,8,8,8,8,8,8,8,8,8,8,8,8,8,8,8,8,8,8,8,8,8,8,8,8,8,8,8,8,8,8,8,8,8,8,8,8,8,8,8,8,8,8,8,8,8,8,8,8,8,8,8,8,8,8,8,8,8,8,8,8,8,8,8,8,8,8,8,8,8,8,8,8,8,8,8,8,8,8]
structure dp where
 t:aL
 wait:eO
 todo:(List a_)
 aQ:(List Int)
instance :Inhabited dp:=⟨⟨default,default,default,default⟩⟩
structure dL where
 key:Int
 item:Int
instance :Inhabited dL:=⟨⟨default,default⟩⟩
def fL:Fl dL:=⟨2,λx=>[.int .i64 x.key,.int .i64 x.item],λ_=>rfl,λ_ v h=>by
 simp only[List.mem_cons,List.not_mem_nil,or_false] at h;rcases h with rfl |rfl<;>rfl,Nat.le_of_ble_eq_true rfl⟩
structure e_ where
 l:(List dL)
instance :Inhabited e_:=⟨⟨default⟩⟩
structure eB where
 To:Int
 kS:Int
instance :Inhabited eB:=⟨⟨default,default⟩⟩
def pA:Fl eB:=⟨2,λx=>[.int .i64 x.To,.int .i64 x.kS],λ_=>rfl,λ_ v h=>by
 simp only[List.mem_cons,List.not_mem_nil,or_false] at h;rcases h with rfl |rfl<;>rfl,Nat.le_of_ble_eq_true rfl⟩
structure Dy where
 t:aL
 l:(List a_)
 aQ:(List Int)
instance :Inhabited Dy:=⟨⟨default,default,default⟩⟩
structure ck where
 Goal:Int
 fe:Int
 de:(List Int)
instance :Inhabited ck:=⟨⟨default,default,default⟩⟩
def pG:Kd ck where
 size:=3
 own:=λx cs H=> ∃a0 n0 H0,aj (Fl.int .i64) 3 x.de a0 n0 H0/\cs=[.int .i64 x.Goal,.int .i64 x.fe,.slice a0 (List.length x.de) n0]/\H=List.flatten [H0]
 mJ:=λx cs H=> ∃(a0:Option Addr) (n0:Nat),(aP (Fl.int .i64) x.de a0 H/\List.length x.de<=n0)/\cs=[.int .i64 x.Goal,.int .i64 x.fe,.slice a0 (List.length x.de) n0]
 len:=by
  rintro x cs H ⟨a0,n0,H0,s0,rfl,rfl⟩
  rfl
 plain:=by
  rintro x cs H ⟨a0,n0,H0,s0,rfl,rfl⟩ v hv;simp only[List.mem_cons,List.not_mem_nil,or_false] at hv;rcases hv with rfl |rfl |rfl<;>rfl
 r:=by
  rintro x cs H ⟨a0,n0,H0,s0,rfl,rfl⟩;exact⟨a0,n0,⟨s0.r.mono (λc hc=>gx (HL:=[H0]) (j:=0) rfl hc),s0.bT⟩,rfl⟩
 mono:=by
  rintro x cs H H' ⟨a0,n0,⟨r0,c0⟩,rfl⟩ hs;exact⟨a0,n0,⟨r0.mono hs,c0⟩,rfl⟩
 pos:=by decide
structure mC where
 w:Int
 h:Int
 j4:(List (Int×Bool))
 kJ:(List eD)
 gone:(List Int)
instance :Inhabited mC:=⟨⟨default,default,default,default,default⟩⟩
def Bg:Kd eI where
 size:=12
 own:=λx cs H=> ∃a0 n0 H0 a1 n1 H1,aj iJ 94 x.cF a0 n0 H0/\aj (Fl.int .i64) 3 x.di a1 n1 H1/\cs=[.int .i64 x.Code,.int .i64 x.D,.int .i64 x.bX,.int .i64 x.Id,.slice a0 (List.length x.cF) n0,.slice a1 (List.length x.di) n1,.int .u64 x.Stats.bA,.int .u64 x.Stats.bB,.int .u64 x.Stats.bz,.int .u64 x.Stats.bw,.int .u64 x.Stats.bF,.int .u64 x.Stats.bD]/\H=List.flatten [H0,H1]
 mJ:=λx cs H=> ∃(a0:Option Addr) (n0:Nat) (a1:Option Addr) (n1:Nat),(aP iJ x.cF a0 H/\List.length x.cF<=n0)/\(aP (Fl.int .i64) x.di a1 H/\List.length x.di<=n1)/\cs=[.int .i64 x.Code,.int .i64 x.D,.int .i64 x.bX,.int .i64 x.Id,.slice a0 (List.length x.cF) n0,.slice a1 (List.length x.di) n1,.int .u64 x.Stats.bA,.int .u64 x.Stats.bB,.int .u64 x.Stats.bz,.int .u64 x.Stats.bw,.int .u64 x.Stats.bF,.int .u64 x.Stats.bD]
 len:=by
  rintro x cs H ⟨a0,n0,H0,a1,n1,H1,s0,s1,rfl,rfl⟩
  rfl
 plain:=by
  rintro x cs H ⟨a0,n0,H0,a1,n1,H1,s0,s1,rfl,rfl⟩ v hv;simp only[List.mem_cons,List.not_mem_nil,or_false] at hv;rcases hv with rfl |rfl |rfl |rfl |rfl |rfl |rfl |rfl |rfl |rfl |rfl |rfl<;>rfl
 r:=by
  rintro x cs H ⟨a0,n0,H0,a1,n1,H1,s0,s1,rfl,rfl⟩;exact⟨a0,n0,a1,n1,⟨s0.r.mono (λc hc=>gx (HL:=[H0,H1]) (j:=0) rfl hc),s0.bT⟩,⟨s1.r.mono (λc hc=>gx (HL:=[H0,H1]) (j:=1) rfl hc),s1.bT⟩,rfl⟩
 mono:=by
  rintro x cs H H' ⟨a0,n0,a1,n1,⟨r0,c0⟩,⟨r1,c1⟩,rfl⟩ hs;exact⟨a0,n0,a1,n1,⟨r0.mono hs,c0⟩,⟨r1.mono hs,c1⟩,rfl⟩
 pos:=by decide
def fy (n : String) (t o b : Nat) : Field := ⟨n, t, o, false, "", "", b⟩
def cj (n : String) (t o b : Nat) (p : String) : Field := ⟨n, t, o, false, "", p, b⟩
theorem aH {P : Program} {f : FuncId} {fn : Func} (h : P.funcs[f]? = some fn) (a : (fn.name == "runtime.NumGoroutine") = false := by kernel_rfl) (b : fn.body.isNone = false := by kernel_rfl) : Has P f := ⟨⟨fn, h, a, b⟩⟩
theorem all_map {α β:Type} {g:Nat->β} {k:α->β}: ∀{l:List (Nat×α)},l.map (λe=>g e.1)=l.map (λe=>k e.2)->Fx (λt d=>g t=k d) l
 |[],_=>trivial
 |_::_,h=>⟨(List.cons.inj h).1,all_map (List.cons.inj h).2⟩
def Ty.om {P:Program} (us:List (Nat×TypeDesc)) (is:List (Nat×(Nat×Nat×Value))) (hu:us.map (λe=>P.underlying e.1)=us.map (λe=>some e.2):=by kernel_rfl)
 (hi:is.map (λe=>(P.info? e.1).map λi=>(i.size,i.bytes,i.zero))=is.map (λe=>some (e.2.1,e.2.2.1,some e.2.2.2)):=by kernel_rfl):Ty P:=
 Ty.of us is (all_map hu) (all_map (k:=λd:Nat×Nat×Value=>some (d.1,d.2.1,some d.2.2)) hi)
theorem u3:Tryz.prog.underlying 3=some (.int .i64):=ay
theorem lS:Tryz.prog.underlying 76=some (.array 2 3):=ay
noncomputable def T : Ty Tryz.prog := Ty.om [(2, .int .i64), (3, .int .i64), (4, .bool), (5, .int .u8), (9, .string), (21, .int .i32), (22, .slice 5), (23, .slice 97), (24, .slice 3), (25, .pointer 103), (30, .struct #[(fy "W" 3 0 0), (fy "H" 3 1 8), (fy "C" 22 2 16)]), (40, .slice 55), (43, .slice 4), (44, .int .u64), (46, .struct #[(fy "Rebuilds" 44 0 0), (fy "Searches" 44 1 8), (fy "Builds" 44 2 16), (fy "Hits" 44 3 24), (fy "Stale" 44 4 32), (fy "Evicts" 44 5 40)]), (48, .slice 67), (50, .slice 94), (52, .struct #[(fy "Code" 3 0 0), (fy "D" 3 1 8), (fy "Dir" 3 2 16), (fy "Id" 3 3 24), (fy "Moves" 50 4 32), (fy "Gone" 24 5 56), (fy "Stats" 46 6 80)]), (55, .struct #[(fy "Kind" 3 0 0), (fy "A" 3 1 8), (fy "B" 3 2 16), (fy "Map" 22 3 24)]), (59, .slice 120), (63, .slice 65), (65, .int .u32), (67, .struct #[(fy "Id" 3 0 0), (fy "Cell" 3 1 8), (fy "Goal" 3 2 16)]), (69, .slice 52), (76, .array 2 3), (79, .struct #[(fy "Dist" 24 0 0), (fy "Dir" 24 1 24)]), (88, .pointer 135), (94, .struct #[(fy "Id" 3 0 0), (fy "To" 3 1 8)]), (97, .struct #[(fy "Kind" 3 0 0), (fy "A" 3 1 8), (fy "B" 3 2 16)]), (101, .pointer 146), (103, .struct #[(cj "most" 3 0 0 "herdsman/svc"), (cj "nav" 88 1 8 "herdsman/svc"), (cj "crowd" 101 2 16 "herdsman/svc")]), (106, .interface #[("Error", 415)]), (110, .pointer 112), (112, .struct #[(cj "kind" 3 0 0 "herdsman/svc"), (cj "of" 106 1 8 "herdsman/svc")]), (117, .map 3 59), (118, .map 76 3), (120, .struct #[(fy "Goal" 3 0 0), (fy "Sector" 3 1 8), (fy "Ids" 24 2 16)]), (122, .map 3 4), (123, .array 6 44), (130, .pointer 167), (131, .pointer 213), (132, .pointer 233), (133, .pointer 173), (135, .struct #[(cj "grid" 130 0 0 "herdsman/nav"), (cj "mesh" 131 1 8 "herdsman/nav"), (cj "finder" 132 2 16 "herdsman/nav"), (cj "shelf" 133 3 24 "herdsman/nav"), (cj "past" 46 4 32 "herdsman/nav")]), (136, .int .u64), (139, .struct #[(fy "W" 3 0 0), (fy "H" 3 1 8), (fy "C" 22 2 16)]), (143, .pointer 178), (144, .pointer 221), (146, .struct #[(cj "w" 3 0 0 "herdsman/crowd"), (cj "h" 3 1 8 "herdsman/crowd"), (cj "most" 3 2 16 "herdsman/crowd"), (cj "units" 143 3 24 "herdsman/crowd"), (cj "floor" 144 4 32 "herdsman/crowd")]), (148, .int .i64), (160, .pointer 148), (165, .slice 2), (167, .struct #[(cj "m" 30 0 0 "herdsman/grid"), (cj "epoch" 2 3 40 "herdsman/grid"), (cj "versions" 165 4 48 "herdsman/grid")]), (169, .pointer 238), (171, .slice 291), (173, .struct #[(cj "keys" 169 0 0 "herdsman/shelf"), (cj "fields" 171 1 8 "herdsman/shelf"), (cj "count" 46 2 32 "herdsman/shelf")]), (176, .map 3 67), (178, .struct #[(cj "most" 3 0 0 "herdsman/units"), (cj "next" 3 1 8 "herdsman/units"), (cj "live" 176 2 16 "herdsman/units"), (cj "order" 24 3 24 "herdsman/units")]), (180, .struct #[(cj "a" 3 0 0 "herdsman/op"), (cj "b" 3 1 8 "herdsman/op"), (cj "load" 4 2 16 "herdsman/op")]), (211, .slice 217), (213, .struct #[(cj "g" 130 0 0 "herdsman/mesh"), (cj "parts" 211 1 8 "herdsman/mesh"), (cj "clean" 2 2 32 "herdsman/mesh"), (cj "count" 44 3 40 "herdsman/mesh")]), (215, .slice 21), (217, .struct #[(cj "version" 2 0 0 "herdsman/mesh"), (cj "nodes" 24 1 8 "herdsman/mesh"), (cj "dist" 215 2 32 "herdsman/mesh")]), (221, .struct #[(cj "words" 63 0 0 "herdsman/floor"), (cj "count" 3 1 24 "herdsman/floor")]), (222, .pointer 224), (224, .struct #[(cj "goal" 3 0 0 "herdsman/nav"), (cj "of" 106 1 8 "herdsman/nav")]), (227, .slice 285), (229, .pointer 235), (233, .struct #[(cj "m" 131 0 0 "herdsman/route"), (cj "g" 130 1 8 "herdsman/route"), (cj "kept" 229 2 16 "herdsman/route"), (cj "count" 44 3 24 "herdsman/route")]), (235, .struct #[(cj "goal" 3 0 0 "herdsman/route"), (cj "epoch" 2 1 8 "herdsman/route"), (cj "dist" 215 2 16 "herdsman/route")]), (236, .slice 278), (238, .struct #[(cj "k" 3 0 0 "herdsman/lru"), (cj "seats" 236 1 8 "herdsman/lru"), (cj "slots" 118 2 32 "herdsman/lru"), (cj "newest" 3 3 40 "herdsman/lru"), (cj "oldest" 3 4 48 "herdsman/lru")]), (243, .int .i64), (244, .pointer 243), (258, .map 3 3), (278, .struct #[(cj "key" 76 0 0 "herdsman/lru"), (cj "newer" 3 2 16 "herdsman/lru"), (cj "old" 3 3 24 "herdsman/lru")]), (280, .slice 283), (283, .struct #[(fy "To" 3 0 0), (fy "Cost" 3 1 8)]), (285, .struct #[(fy "Cell" 3 0 0), (fy "Side" 3 1 8), (fy "Key" 3 2 16)]), (291, .struct #[(cj "version" 2 0 0 "herdsman/shelf"), (cj "seeds" 227 1 8 "herdsman/shelf"), (cj "field" 79 2 32 "herdsman/shelf")]), (301, .pointer 303), (303, .struct #[(cj "sector" 3 0 0 "herdsman/atlas"), (cj "of" 106 1 8 "herdsman/atlas")]), (309, .struct #[(cj "w" 3 0 0 "herdsman/march"), (cj "h" 3 1 8 "herdsman/march"), (cj "stand" 122 2 16 "herdsman/march"), (cj "moves" 50 3 24 "herdsman/march"), (cj "gone" 24 4 48 "herdsman/march")]), (314, .array 4 3), (320, .pointer 357), (337, .struct #[(cj "t" 139 0 0 "herdsman/steer"), (cj "l" 227 3 40 "herdsman/steer"), (cj "dist" 24 4 64 "herdsman/steer")]), (340, .struct #[(cj "b" 22 0 0 "herdsman/pack"), (cj "at" 3 1 24 "herdsman/pack")]), (343, .pointer 346), (344, .pointer 343), (346, .struct #[(cj "at" 3 0 0 "herdsman/pack"), (cj "code" 3 1 8 "herdsman/pack"), (cj "of" 106 2 16 "herdsman/pack")]), (355, .slice 359), (357, .struct #[(cj "l" 355 0 0 "herdsman/heap")]), (359, .struct #[(cj "key" 3 0 0 "herdsman/heap"), (cj "item" 3 1 8 "herdsman/heap")]), (360, .pointer 217), (365, .pointer 396), (369, .struct #[(cj "t" 139 0 0 "herdsman/sweep"), (cj "wait" 365 3 40 "herdsman/sweep"), (cj "todo" 227 4 48 "herdsman/sweep"), (cj "dist" 24 5 72 "herdsman/sweep")]), (393, .struct #[(cj "items" 24 0 0 "herdsman/ring"), (cj "gone" 3 1 24 "herdsman/ring")]), (394, .array 256 393), (396, .struct #[(cj "at" 3 0 0 "herdsman/ring"), (cj "len" 3 1 8 "herdsman/ring"), (cj "buckets" 394 2 16 "herdsman/ring")])]
 [(2,(1,8,(ii 0))),(3,(1,8,(ii 0))),(4,(1,1,(bb false))),(5,(1,1,(.int .u8 0))),(21,(1,4,(.int .i32 0))),(22,(1,24,nl)),(24,(1,24,nl)),(30,(3,40,(.agg #[(ii 0),(ii 0),nl]))),(44,(1,8,(uu 0))),(46,(6,48,(.agg #[(uu 0),(uu 0),(uu 0),(uu 0),(uu 0),(uu 0)]))),(50,(1,24,nl)),(52,(12,128,(.agg #[(ii 0),(ii 0),(ii 0),(ii 0),nl,nl,(uu 0),(uu 0),(uu 0),(uu 0),(uu 0),(uu 0)]))),(55,(4,48,(.agg #[(ii 0),(ii 0),(ii 0),nl]))),(59,(1,24,nl)),(63,(1,24,nl)),(65,(1,4,(.int .u32 0))),(67,(3,24,(.agg #[(ii 0),(ii 0),(ii 0)]))),(76,(2,16,(.agg #[(ii 0),(ii 0)]))),(79,(2,48,(.agg #[nl,nl]))),(88,(1,8,(.pointer none))),(94,(2,16,(.agg #[(ii 0),(ii 0)]))),(97,(3,24,(.agg #[(ii 0),(ii 0),(ii 0)]))),(101,(1,8,(.pointer none))),(103,(3,24,(.agg #[(ii 0),(.pointer none),(.pointer none)]))),(106,(1,16,.nilIface)),(112,(2,24,(.agg #[(ii 0),.nilIface]))),(118,(1,8,(.map none))),(120,(3,40,(.agg #[(ii 0),(ii 0),nl]))),(122,(1,8,(.map none))),(123,(6,48,(.agg #[(uu 0),(uu 0),(uu 0),(uu 0),(uu 0),(uu 0)]))),(130,(1,8,(.pointer none))),(131,(1,8,(.pointer none))),(132,(1,8,(.pointer none))),(133,(1,8,(.pointer none))),(135,(10,80,(.agg #[(.pointer none),(.pointer none),(.pointer none),(.pointer none),(uu 0),(uu 0),(uu 0),(uu 0),(uu 0),(uu 0)]))),(139,(3,40,(.agg #[(ii 0),(ii 0),nl]))),(143,(1,8,(.pointer none))),(144,(1,8,(.pointer none))),(146,(5,40,(.agg #[(ii 0),(ii 0),(ii 0),(.pointer none),(.pointer none)]))),(148,(1,8,(ii 0))),(165,(1,24,nl)),(167,(5,72,(.agg #[(ii 0),(ii 0),nl,(ii 0),nl]))),(169,(1,8,(.pointer none))),(171,(1,24,nl)),(173,(8,80,(.agg #[(.pointer none),nl,(uu 0),(uu 0),(uu 0),(uu 0),(uu 0),(uu 0)]))),(176,(1,8,(.map none))),(178,(4,48,(.agg #[(ii 0),(ii 0),(.map none),nl]))),(180,(3,24,(.agg #[(ii 0),(ii 0),(bb false)]))),(211,(1,24,nl)),(213,(4,48,(.agg #[(.pointer none),nl,(ii 0),(uu 0)]))),(215,(1,24,nl)),(217,(3,56,(.agg #[(ii 0),nl,nl]))),(221,(2,32,(.agg #[nl,(ii 0)]))),(224,(2,24,(.agg #[(ii 0),.nilIface]))),(227,(1,24,nl)),(229,(1,8,(.pointer none))),(233,(4,32,(.agg #[(.pointer none),(.pointer none),(.pointer none),(uu 0)]))),(235,(3,40,(.agg #[(ii 0),(ii 0),nl]))),(236,(1,24,nl)),(238,(5,56,(.agg #[(ii 0),nl,(.map none),(ii 0),(ii 0)]))),(243,(1,8,(ii 0))),(278,(4,32,(.agg #[(ii 0),(ii 0),(ii 0),(ii 0)]))),(283,(2,16,(.agg #[(ii 0),(ii 0)]))),(285,(3,24,(.agg #[(ii 0),(ii 0),(ii 0)]))),(291,(4,80,(.agg #[(ii 0),nl,nl,nl]))),(303,(2,24,(.agg #[(ii 0),.nilIface]))),(309,(5,72,(.agg #[(ii 0),(ii 0),(.map none),nl,nl]))),(314,(4,32,(.agg #[(ii 0),(ii 0),(ii 0),(ii 0)]))),(337,(5,88,(.agg #[(ii 0),(ii 0),nl,nl,nl]))),(340,(2,32,(.agg #[nl,(ii 0)]))),(343,(1,8,(.pointer none))),(346,(3,32,(.agg #[(ii 0),(ii 0),.nilIface]))),(355,(1,24,nl)),(357,(1,24,(.agg #[nl]))),(359,(2,16,(.agg #[(ii 0),(ii 0)]))),(365,(1,8,(.pointer none))),(369,(6,96,(.agg #[(ii 0),(ii 0),nl,(.pointer none),nl,nl]))),(393,(2,32,(.agg #[nl,(ii 0)]))),(394,(512,8192,(.agg #[nl,(ii 0),nl,(ii 0),nl,(ii 0),nl,(ii 0),nl,(ii 0),nl,(ii 0),nl,(ii 0),nl,(ii 0),nl,(ii 0),nl,(ii 0),nl,(ii 0),nl,(ii 0),nl,(ii 0),nl,(ii 0),nl,(ii 0),nl,(ii 0),nl,(ii 0),nl,(ii 0),nl,(ii 0),nl,(ii 0),nl,(ii 0),nl,(ii 0),nl,(ii 0),nl,(ii 0),nl,(ii 0),nl,(ii 0),nl,(ii 0),nl,(ii 0),nl,(ii 0),nl,(ii 0),nl,(ii 0),nl,(ii 0),nl,(ii 0),nl,(ii 0),nl,(ii 0),nl,(ii 0),nl,(ii 0),nl,(ii 0),nl,(ii 0),nl,(ii 0),nl,(ii 0),nl,(ii 0),nl,(ii 0),nl,(ii 0),nl,(ii 0),nl,(ii 0),nl,(ii 0),nl,(ii 0),nl,(ii 0),nl,(ii 0),nl,(ii 0),nl,(ii 0),nl,(ii 0),nl,(ii 0),nl,(ii 0),nl,(ii 0),nl,(ii 0),nl,(ii 0),nl,(ii 0),nl,(ii 0),nl,(ii 0),nl,(ii 0),nl,(ii 0),nl,(ii 0),nl,(ii 0),nl,(ii 0),nl,(ii 0),nl,(ii 0),nl,(ii 0),nl,(ii 0),nl,(ii 0),nl,(ii 0),nl,(ii 0),nl,(ii 0),nl,(ii 0),nl,(ii 0),nl,(ii 0),nl,(ii 0),nl,(ii 0),nl,(ii 0),nl,(ii 0),nl,(ii 0),nl,(ii 0),nl,(ii 0),nl,(ii 0),nl,(ii 0),nl,(ii 0),nl,(ii 0),nl,(ii 0),nl,(ii 0),nl,(ii 0),nl,(ii 0),nl,(ii 0),nl,(ii 0),nl,(ii 0),nl,(ii 0),nl,(ii 0),nl,(ii 0),nl,(ii 0),nl,(ii 0),nl,(ii 0),nl,(ii 0),nl,(ii 0),nl,(ii 0),nl,(ii 0),nl,(ii 0),nl,(ii 0),nl,(ii 0),nl,(ii 0),nl,(ii 0),nl,(ii 0),nl,(ii 0),nl,(ii 0),nl,(ii 0),nl,(ii 0),nl,(ii 0),nl,(ii 0),nl,(ii 0),nl,(ii 0),nl,(ii 0),nl,(ii 0),nl,(ii 0),nl,(ii 0),nl,(ii 0),nl,(ii 0),nl,(ii 0),nl,(ii 0),nl,(ii 0),nl,(ii 0),nl,(ii 0),nl,(ii 0),nl,(ii 0),nl,(ii 0),nl,(ii 0),nl,(ii 0),nl,(ii 0),nl,(ii 0),nl,(ii 0),nl,(ii 0),nl,(ii 0),nl,(ii 0),nl,(ii 0),nl,(ii 0),nl,(ii 0),nl,(ii 0),nl,(ii 0),nl,(ii 0),nl,(ii 0),nl,(ii 0),nl,(ii 0),nl,(ii 0),nl,(ii 0),nl,(ii 0),nl,(ii 0),nl,(ii 0),nl,(ii 0),nl,(ii 0),nl,(ii 0),nl,(ii 0),nl,(ii 0),nl,(ii 0),nl,(ii 0),nl,(ii 0),nl,(ii 0),nl,(ii 0),nl,(ii 0),nl,(ii 0),nl,(ii 0),nl,(ii 0),nl,(ii 0),nl,(ii 0),nl,(ii 0),nl,(ii 0),nl,(ii 0),nl,(ii 0),nl,(ii 0),nl,(ii 0),nl,(ii 0),nl,(ii 0),nl,(ii 0),nl,(ii 0),nl,(ii 0),nl,(ii 0),nl,(ii 0),nl,(ii 0),nl,(ii 0),nl,(ii 0),nl,(ii 0),nl,(ii 0),nl,(ii 0),nl,(ii 0),nl,(ii 0),nl,(ii 0),nl,(ii 0),nl,(ii 0),nl,(ii 0),nl,(ii 0),nl,(ii 0),nl,(ii 0),nl,(ii 0),nl,(ii 0),nl,(ii 0),nl,(ii 0),nl,(ii 0),nl,(ii 0),nl,(ii 0),nl,(ii 0),nl,(ii 0),nl,(ii 0),nl,(ii 0),nl,(ii 0),nl,(ii 0),nl,(ii 0),nl,(ii 0),nl,(ii 0),nl,(ii 0),nl,(ii 0),nl,(ii 0),nl,(ii 0),nl,(ii 0),nl,(ii 0),nl,(ii 0),nl,(ii 0),nl,(ii 0),nl,(ii 0),nl,(ii 0),nl,(ii 0),nl,(ii 0),nl,(ii 0),nl,(ii 0),nl,(ii 0),nl,(ii 0),nl,(ii 0),nl,(ii 0),nl,(ii 0),nl,(ii 0),nl,(ii 0),nl,(ii 0),nl,(ii 0),nl,(ii 0),nl,(ii 0),nl,(ii 0),nl,(ii 0),nl,(ii 0),nl,(ii 0),nl,(ii 0),nl,(ii 0),nl,(ii 0),nl,(ii 0),nl,(ii 0),nl,(ii 0),nl,(ii 0),nl,(ii 0),nl,(ii 0),nl,(ii 0),nl,(ii 0)]))),(396,(514,8208,(.agg #[(ii 0),(ii 0),nl,(ii 0),nl,(ii 0),nl,(ii 0),nl,(ii 0),nl,(ii 0),nl,(ii 0),nl,(ii 0),nl,(ii 0),nl,(ii 0),nl,(ii 0),nl,(ii 0),nl,(ii 0),nl,(ii 0),nl,(ii 0),nl,(ii 0),nl,(ii 0),nl,(ii 0),nl,(ii 0),nl,(ii 0),nl,(ii 0),nl,(ii 0),nl,(ii 0),nl,(ii 0),nl,(ii 0),nl,(ii 0),nl,(ii 0),nl,(ii 0),nl,(ii 0),nl,(ii 0),nl,(ii 0),nl,(ii 0),nl,(ii 0),nl,(ii 0),nl,(ii 0),nl,(ii 0),nl,(ii 0),nl,(ii 0),nl,(ii 0),nl,(ii 0),nl,(ii 0),nl,(ii 0),nl,(ii 0),nl,(ii 0),nl,(ii 0),nl,(ii 0),nl,(ii 0),nl,(ii 0),nl,(ii 0),nl,(ii 0),nl,(ii 0),nl,(ii 0),nl,(ii 0),nl,(ii 0),nl,(ii 0),nl,(ii 0),nl,(ii 0),nl,(ii 0),nl,(ii 0),nl,(ii 0),nl,(ii 0),nl,(ii 0),nl,(ii 0),nl,(ii 0),nl,(ii 0),nl,(ii 0),nl,(ii 0),nl,(ii 0),nl,(ii 0),nl,(ii 0),nl,(ii 0),nl,(ii 0),nl,(ii 0),nl,(ii 0),nl,(ii 0),nl,(ii 0),nl,(ii 0),nl,(ii 0),nl,(ii 0),nl,(ii 0),nl,(ii 0),nl,(ii 0),nl,(ii 0),nl,(ii 0),nl,(ii 0),nl,(ii 0),nl,(ii 0),nl,(ii 0),nl,(ii 0),nl,(ii 0),nl,(ii 0),nl,(ii 0),nl,(ii 0),nl,(ii 0),nl,(ii 0),nl,(ii 0),nl,(ii 0),nl,(ii 0),nl,(ii 0),nl,(ii 0),nl,(ii 0),nl,(ii 0),nl,(ii 0),nl,(ii 0),nl,(ii 0),nl,(ii 0),nl,(ii 0),nl,(ii 0),nl,(ii 0),nl,(ii 0),nl,(ii 0),nl,(ii 0),nl,(ii 0),nl,(ii 0),nl,(ii 0),nl,(ii 0),nl,(ii 0),nl,(ii 0),nl,(ii 0),nl,(ii 0),nl,(ii 0),nl,(ii 0),nl,(ii 0),nl,(ii 0),nl,(ii 0),nl,(ii 0),nl,(ii 0),nl,(ii 0),nl,(ii 0),nl,(ii 0),nl,(ii 0),nl,(ii 0),nl,(ii 0),nl,(ii 0),nl,(ii 0),nl,(ii 0),nl,(ii 0),nl,(ii 0),nl,(ii 0),nl,(ii 0),nl,(ii 0),nl,(ii 0),nl,(ii 0),nl,(ii 0),nl,(ii 0),nl,(ii 0),nl,(ii 0),nl,(ii 0),nl,(ii 0),nl,(ii 0),nl,(ii 0),nl,(ii 0),nl,(ii 0),nl,(ii 0),nl,(ii 0),nl,(ii 0),nl,(ii 0),nl,(ii 0),nl,(ii 0),nl,(ii 0),nl,(ii 0),nl,(ii 0),nl,(ii 0),nl,(ii 0),nl,(ii 0),nl,(ii 0),nl,(ii 0),nl,(ii 0),nl,(ii 0),nl,(ii 0),nl,(ii 0),nl,(ii 0),nl,(ii 0),nl,(ii 0),nl,(ii 0),nl,(ii 0),nl,(ii 0),nl,(ii 0),nl,(ii 0),nl,(ii 0),nl,(ii 0),nl,(ii 0),nl,(ii 0),nl,(ii 0),nl,(ii 0),nl,(ii 0),nl,(ii 0),nl,(ii 0),nl,(ii 0),nl,(ii 0),nl,(ii 0),nl,(ii 0),nl,(ii 0),nl,(ii 0),nl,(ii 0),nl,(ii 0),nl,(ii 0),nl,(ii 0),nl,(ii 0),nl,(ii 0),nl,(ii 0),nl,(ii 0),nl,(ii 0),nl,(ii 0),nl,(ii 0),nl,(ii 0),nl,(ii 0),nl,(ii 0),nl,(ii 0),nl,(ii 0),nl,(ii 0),nl,(ii 0),nl,(ii 0),nl,(ii 0),nl,(ii 0),nl,(ii 0),nl,(ii 0),nl,(ii 0),nl,(ii 0),nl,(ii 0),nl,(ii 0),nl,(ii 0),nl,(ii 0),nl,(ii 0),nl,(ii 0),nl,(ii 0),nl,(ii 0),nl,(ii 0),nl,(ii 0),nl,(ii 0),nl,(ii 0),nl,(ii 0),nl,(ii 0),nl,(ii 0),nl,(ii 0),nl,(ii 0),nl,(ii 0),nl,(ii 0),nl,(ii 0),nl,(ii 0),nl,(ii 0),nl,(ii 0),nl,(ii 0),nl,(ii 0),nl,(ii 0),nl,(ii 0),nl,(ii 0),nl,(ii 0),nl,(ii 0),nl,(ii 0),nl,(ii 0),nl,(ii 0),nl,(ii 0),nl,(ii 0),nl,(ii 0),nl,(ii 0),nl,(ii 0)])))]
abbrev aG:=Has Tryz.prog
theorem kF:aG 12:=aH Tryz.func12
theorem acX:aG 13:=aH Tryz.func13
theorem Tf:aG 14:=aH Tryz.func14
theorem adg:aG 18:=aH Tryz.func18
theorem ads:aG 20:=aH Tryz.func20
theorem J6:aG 21:=aH Tryz.func21
theorem TI:aG 22:=aH Tryz.func22
theorem adI:aG 23:=aH Tryz.func23
theorem Cq:aG 24:=aH Tryz.func24
theorem TO:aG 25:=aH Tryz.func25
theorem rU:aG 26:=aH Tryz.func26
theorem ad_:aG 28:=aH Tryz.func28
theorem aed:aG 29:=aH Tryz.func29
theorem TW:aG 31:=aH Tryz.func31
theorem aen:aG 32:=aH Tryz.func32
theorem aeo:aG 33:=aH Tryz.func33
theorem aep:aG 34:=aH Tryz.func34
theorem TX:aG 42:=aH Tryz.func42
theorem aeq:aG 43:=aH Tryz.func43
theorem NR:aG 45:=aH Tryz.func45
theorem TY:aG 46:=aH Tryz.func46
theorem J':aG 47:=aH Tryz.func47
theorem TZ:aG 48:=aH Tryz.func48
theorem NS:aG 49:=aH Tryz.func49
theorem aer:aG 50:=aH Tryz.func50
theorem aes:aG 51:=aH Tryz.func51
theorem aet:aG 52:=aH Tryz.func52
theorem Ka:aG 53:=aH Tryz.func53
theorem Kb:aG 54:=aH Tryz.func54
theorem aeu:aG 55:=aH Tryz.func55
theorem aev:aG 56:=aH Tryz.func56
theorem NT:aG 57:=aH Tryz.func57
theorem NU:aG 58:=aH Tryz.func58
theorem Gy:aG 59:=aH Tryz.func59
theorem T6:aG 61:=aH Tryz.func61
theorem qf:aG 62:=aH Tryz.func62
theorem T7:aG 63:=aH Tryz.func63
theorem aew:aG 64:=aH Tryz.func64
theorem aex:aG 65:=aH Tryz.func65
theorem aey:aG 67:=aH Tryz.func67
theorem T8:aG 68:=aH Tryz.func68
theorem aez:aG 69:=aH Tryz.func69
theorem T9:aG 70:=aH Tryz.func70
theorem aeA:aG 71:=aH Tryz.func71
theorem T_:aG 74:=aH Tryz.func74
theorem aeB:aG 75:=aH Tryz.func75
theorem aeC:aG 76:=aH Tryz.func76
theorem aeD:aG 77:=aH Tryz.func77
theorem NV:aG 78:=aH Tryz.func78
theorem Ua:aG 79:=aH Tryz.func79
theorem aeE:aG 80:=aH Tryz.func80
theorem aeF:aG 81:=aH Tryz.func81
theorem aeG:aG 82:=aH Tryz.func82
theorem aeH:aG 83:=aH Tryz.func83
theorem aeI:aG 84:=aH Tryz.func84
theorem aeJ:aG 85:=aH Tryz.func85
theorem aeK:aG 86:=aH Tryz.func86
theorem aeL:aG 87:=aH Tryz.func87
theorem vP:aG 88:=aH Tryz.func88
theorem Ub:aG 89:=aH Tryz.func89
theorem Uc:aG 90:=aH Tryz.func90
theorem aeM:aG 91:=aH Tryz.func91
theorem aeN:aG 92:=aH Tryz.func92
theorem Kc:aG 93:=aH Tryz.func93
theorem Ke:aG 94:=aH Tryz.func94
theorem NW:aG 95:=aH Tryz.func95
theorem Cr:aG 96:=aH Tryz.func96
theorem aeO:aG 97:=aH Tryz.func97
theorem aeP:aG 98:=aH Tryz.func98
theorem S9:aG 100:=aH Tryz.func100
theorem S_:aG 101:=aH Tryz.func101
theorem Ny:aG 103:=aH Tryz.func103
theorem acK:aG 104:=aH Tryz.func104
theorem acL:aG 105:=aH Tryz.func105
theorem J1:aG 106:=aH Tryz.func106
theorem Ta:aG 107:=aH Tryz.func107
theorem Tb:aG 108:=aH Tryz.func108
theorem Tc:aG 109:=aH Tryz.func109
theorem acM:aG 110:=aH Tryz.func110
theorem Nz:aG 111:=aH Tryz.func111
theorem NA:aG 112:=aH Tryz.func112
theorem J2:aG 113:=aH Tryz.func113
theorem acN:aG 114:=aH Tryz.func114
theorem acO:aG 115:=aH Tryz.func115
theorem acP:aG 116:=aH Tryz.func116
theorem NB:aG 117:=aH Tryz.func117
theorem Td:aG 118:=aH Tryz.func118
theorem acQ:aG 119:=aH Tryz.func119
theorem acR:aG 120:=aH Tryz.func120
theorem acS:aG 121:=aH Tryz.func121
theorem Cn:aG 122:=aH Tryz.func122
theorem NC:aG 123:=aH Tryz.func123
theorem Te:aG 124:=aH Tryz.func124
theorem ND:aG 125:=aH Tryz.func125
theorem acT:aG 126:=aH Tryz.func126
theorem acU:aG 127:=aH Tryz.func127
theorem acV:aG 128:=aH Tryz.func128
theorem acW:aG 129:=aH Tryz.func129
theorem Co:aG 136:=aH Tryz.func136
theorem Cp:aG 137:=aH Tryz.func137
theorem acY:aG 138:=aH Tryz.func138
theorem Tg:aG 140:=aH Tryz.func140
theorem vO:aG 141:=aH Tryz.func141
theorem Th:aG 142:=aH Tryz.func142
theorem acZ:aG 143:=aH Tryz.func143
theorem Em:aG 144:=aH Tryz.func144
theorem Ti:aG 145:=aH Tryz.func145
theorem ac0:aG 146:=aH Tryz.func146
theorem ac1:aG 147:=aH Tryz.func147
theorem Tj:aG 148:=aH Tryz.func148
theorem Tk:aG 149:=aH Tryz.func149
theorem Tl:aG 150:=aH Tryz.func150
theorem Tm:aG 151:=aH Tryz.func151
theorem ac2:aG 152:=aH Tryz.func152
theorem Tn:aG 153:=aH Tryz.func153
theorem Gt:aG 154:=aH Tryz.func154
theorem ac3:aG 155:=aH Tryz.func155
theorem ac4:aG 156:=aH Tryz.func156
theorem Tq:aG 157:=aH Tryz.func157
theorem NF:aG 158:=aH Tryz.func158
theorem ac5:aG 159:=aH Tryz.func159
theorem Tr:aG 160:=aH Tryz.func160
theorem Ts:aG 161:=aH Tryz.func161
theorem ac6:aG 162:=aH Tryz.func162
theorem ac7:aG 163:=aH Tryz.func163
theorem Tt:aG 164:=aH Tryz.func164
theorem Gu:aG 165:=aH Tryz.func165
theorem ac8:aG 166:=aH Tryz.func166
theorem ac9:aG 167:=aH Tryz.func167
theorem ac_:aG 168:=aH Tryz.func168
theorem uK:aG 171:=aH Tryz.func171
theorem Gv:aG 172:=aH Tryz.func172
theorem J3:aG 173:=aH Tryz.func173
theorem ac':aG 174:=aH Tryz.func174
theorem J4:aG 175:=aH Tryz.func175
theorem ada:aG 176:=aH Tryz.func176
theorem adb:aG 177:=aH Tryz.func177
theorem ade:aG 178:=aH Tryz.func178
theorem adf:aG 179:=aH Tryz.func179
theorem Gw:aG 180:=aH Tryz.func180
theorem adh:aG 181:=aH Tryz.func181
theorem adi:aG 182:=aH Tryz.func182
theorem Tu:aG 183:=aH Tryz.func183
theorem adj:aG 184:=aH Tryz.func184
theorem adk:aG 185:=aH Tryz.func185
theorem J5:aG 186:=aH Tryz.func186
theorem Tv:aG 187:=aH Tryz.func187
theorem adl:aG 188:=aH Tryz.func188
theorem Tw:aG 189:=aH Tryz.func189
theorem NG:aG 190:=aH Tryz.func190
theorem adm:aG 191:=aH Tryz.func191
theorem adn:aG 192:=aH Tryz.func192
theorem ado:aG 193:=aH Tryz.func193
theorem NH:aG 194:=aH Tryz.func194
theorem Tx:aG 195:=aH Tryz.func195
theorem Tz:aG 196:=aH Tryz.func196
theorem adp:aG 197:=aH Tryz.func197
theorem adq:aG 198:=aH Tryz.func198
theorem adr:aG 199:=aH Tryz.func199
theorem adt:aG 200:=aH Tryz.func200
theorem TA:aG 201:=aH Tryz.func201
theorem TB:aG 202:=aH Tryz.func202
theorem adu:aG 203:=aH Tryz.func203
theorem NI:aG 204:=aH Tryz.func204
theorem TC:aG 205:=aH Tryz.func205
theorem TD:aG 206:=aH Tryz.func206
theorem AN:aG 207:=aH Tryz.func207
theorem adv:aG 208:=aH Tryz.func208
theorem adw:aG 210:=aH Tryz.func210
theorem adx:aG 211:=aH Tryz.func211
theorem ady:aG 212:=aH Tryz.func212
theorem TE:aG 213:=aH Tryz.func213
theorem adz:aG 214:=aH Tryz.func214
theorem adA:aG 215:=aH Tryz.func215
theorem TF:aG 216:=aH Tryz.func216
theorem J7:aG 217:=aH Tryz.func217
theorem J8:aG 218:=aH Tryz.func218
theorem adB:aG 219:=aH Tryz.func219
theorem J9:aG 220:=aH Tryz.func220
theorem adC:aG 221:=aH Tryz.func221
theorem adD:aG 222:=aH Tryz.func222
theorem adE:aG 223:=aH Tryz.func223
theorem TJ:aG 224:=aH Tryz.func224
theorem adF:aG 225:=aH Tryz.func225
theorem adG:aG 226:=aH Tryz.func226
theorem NJ:aG 227:=aH Tryz.func227
theorem TK:aG 228:=aH Tryz.func228
theorem adH:aG 229:=aH Tryz.func229
theorem adJ:aG 230:=aH Tryz.func230
theorem adK:aG 231:=aH Tryz.func231
theorem adL:aG 232:=aH Tryz.func232
theorem adM:aG 233:=aH Tryz.func233
theorem adN:aG 234:=aH Tryz.func234
theorem adO:aG 235:=aH Tryz.func235
theorem adP:aG 236:=aH Tryz.func236
theorem NK:aG 237:=aH Tryz.func237
theorem adQ:aG 238:=aH Tryz.func238
theorem NL:aG 239:=aH Tryz.func239
theorem adR:aG 240:=aH Tryz.func240
theorem adS:aG 241:=aH Tryz.func241
theorem adT:aG 242:=aH Tryz.func242
theorem TL:aG 243:=aH Tryz.func243
theorem adU:aG 244:=aH Tryz.func244
theorem TM:aG 245:=aH Tryz.func245
theorem adV:aG 246:=aH Tryz.func246
theorem TN:aG 247:=aH Tryz.func247
theorem NM:aG 248:=aH Tryz.func248
theorem adW:aG 249:=aH Tryz.func249
theorem TP:aG 250:=aH Tryz.func250
theorem adX:aG 251:=aH Tryz.func251
theorem adY:aG 252:=aH Tryz.func252
theorem adZ:aG 253:=aH Tryz.func253
theorem ad0:aG 254:=aH Tryz.func254
theorem ad1:aG 255:=aH Tryz.func255
theorem ad2:aG 264:=aH Tryz.func264
theorem J_:aG 265:=aH Tryz.func265
theorem ad3:aG 266:=aH Tryz.func266
theorem ad4:aG 267:=aH Tryz.func267
theorem ad5:aG 269:=aH Tryz.func269
theorem TQ:aG 270:=aH Tryz.func270
theorem ad6:aG 271:=aH Tryz.func271
theorem ad7:aG 272:=aH Tryz.func272
theorem NN:aG 273:=aH Tryz.func273
theorem NO:aG 274:=aH Tryz.func274
theorem ad8:aG 275:=aH Tryz.func275
theorem ad9:aG 276:=aH Tryz.func276
theorem xx:aG 277:=aH Tryz.func277
theorem NP:aG 278:=aH Tryz.func278
theorem TR:aG 279:=aH Tryz.func279
theorem TS:aG 280:=aH Tryz.func280
theorem ad':aG 281:=aH Tryz.func281
theorem aea:aG 282:=aH Tryz.func282
theorem aeb:aG 288:=aH Tryz.func288
theorem aec:aG 289:=aH Tryz.func289
theorem aee:aG 290:=aH Tryz.func290
theorem TT:aG 291:=aH Tryz.func291
theorem TU:aG 292:=aH Tryz.func292
theorem NQ:aG 293:=aH Tryz.func293
theorem Gx:aG 294:=aH Tryz.func294
theorem aef:aG 295:=aH Tryz.func295
theorem aeg:aG 297:=aH Tryz.func297
theorem aeh:aG 299:=aH Tryz.func299
theorem aei:aG 300:=aH Tryz.func300
theorem TV:aG 301:=aH Tryz.func301
theorem aej:aG 302:=aH Tryz.func302
theorem aek:aG 303:=aH Tryz.func303
theorem ael:aG 304:=aH Tryz.func304
theorem aem:aG 305:=aH Tryz.func305
theorem mix:Tryz.prog.follows .mixedOrders=true:=ay
theorem ajh:Tryz.prog.stoodInHeld 94=false/\Tryz.prog.eqGuardType Tryz.prog.depth 94=false:=⟨by kernel_rfl,by kernel_rfl⟩
theorem PX:Tryz.prog.stoodInHeld 285=false/\Tryz.prog.eqGuardType Tryz.prog.depth 285=false:=⟨by kernel_rfl,by kernel_rfl⟩
@[reducible] def Yo (o : Option gh) (v : Value) (G : List Hp) : Prop := match o with
 |none=>v= .pointer none/\G=[]
 |some x=> ∃(b:Nat) (a0 n0 H0:_) (a1:Nat) (H1:Hp),aj kI 278 x.ak a0 n0 H0/\cV (Ky.pair T .i64 rfl rfl rfl lS u3) (λx:Int=>Value.int .i64 x) x.fj a1 H1/\v= .pointer (some ⟨b,0,none⟩)/\G=[(cl b 238 [(ii x.k),(ll a0 x.ak n0),(.map (some a1)),(ii x.cE),(ii x.dt)]),H0,H1]
def sF (x:jD) (b:Nat) (H:Hp):Prop:= ∃(b0:Nat) (a1 n1 H1:_) (a2:Nat) (H2:Hp) (a3 n3 H3:_),aj kI 278 x.keys.ak a1 n1 H1/\cV (Ky.pair T .i64 rfl rfl rfl lS u3) (λx:Int=>Value.int .i64 x) x.keys.fj a2 H2/\fI EY 291 x.fields a3 n3 H3/\H=List.flatten [(cl b 173 [(pp b0),(ll a3 x.fields n3),(uu x.count.bA),(uu x.count.bB),(uu x.count.bz),(uu x.count.bw),(uu x.count.bF),(uu x.count.bD)]),(cl b0 238 [(ii x.keys.k),(ll a1 x.keys.ak n1),(.map (some a2)),(ii x.keys.cE),(ii x.keys.dt)]),H1,H2,H3]
@[reducible] def Yu (o : Option jD) (v : Value) (G : List Hp) : Prop := match o with
 |none=>v= .pointer none/\G=[]
 |some x=> ∃(b:Nat) (H:Hp),sF x b H/\v= .pointer (some ⟨b,0,none⟩)/\G=[H]
def iP (x:bC) (b:Nat) (H:Hp):Prop:= ∃a0 n0 H0 a1 n1 H1,aj (Fl.int .u8) 5 x.m.C a0 n0 H0/\aj (Fl.int .i64) 2 x.pS a1 n1 H1/\H=List.flatten [(cl b 167 [(ii x.m.W),(ii x.m.H),(ll a0 x.m.C n0),(ii x.bM),(ll a1 x.pS n1)]),H0,H1]
def mQ (x:dM) (b:Nat) (l0:Nat) (H:Hp):Prop:= ∃a0 n0 H0,fI Po 217 x.parts a0 n0 H0/\H=List.flatten [(cl b 213 [(pp l0),(ll a0 x.parts n0),(ii x.clean),(uu x.count)]),H0]
def LX (o:Option ic) (l0:Nat) (l1:Nat) (v0:Value) (H:Hp):Prop:=match o with
 |none=>v0= .pointer none/\H=[]
 |some y=> ∃(b0:Nat) (a1 n1 H1:_),aj (Fl.int .i32) 21 y.aQ a1 n1 H1/\v0=(pp b0)/\H=List.flatten [(cl b0 235 [(ii y.goal),(ii y.bM),(ll a1 y.aQ n1)]),H1]
def uw (x:ki) (b:Nat) (l0:Nat) (l1:Nat) (H:Hp):Prop:= ∃(v0:Value) (Ho:Hp),LX x.kept l0 l1 v0 Ho/\H=List.flatten [(cl b 233 [(pp l0),(pp l1),v0,(uu x.count)]),Ho]
def vp (o:Option d_) (v0 v1 v2:Value) (H:Hp):Prop:=match o with
 |none=>v0= .pointer none/\v1= .pointer none/\v2= .pointer none/\H=[]
 |some y=> ∃(b0:Nat) (H0:Hp) (b1:Nat) (H1:Hp) (b2:Nat) (H2:Hp),iP y.aB b0 H0/\mQ y.iK b1 b0 H1/\uw y.jg b2 b1 b0 H2/\v0=(pp b0)/\v1=(pp b1)/\v2=(pp b2)/\H=List.flatten [H0,H1,H2]
def gW (x:bV) (b:Nat) (H:Hp):Prop:= ∃(b0:Nat) (H0:Hp) (v0 v1 v2:Value) (Ho:Hp),sF x.fV b0 H0/\vp x.core v0 v1 v2 Ho/\H=List.flatten [(cl b 135 [v0,v1,v2,(pp b0),(uu x.aV.bA),(uu x.aV.bB),(uu x.aV.bz),(uu x.aV.bw),(uu x.aV.bF),(uu x.aV.bD)]),H0,Ho]
@[reducible] def Yq (o : Option bV) (v : Value) (G : List Hp) : Prop := match o with
 |none=>v= .pointer none/\G=[]
 |some x=> ∃(b:Nat) (H:Hp),gW x b H/\v= .pointer (some ⟨b,0,none⟩)/\G=[H]
def lJ (x:dN) (b:Nat) (H:Hp):Prop:= ∃(b0:Nat) (a1:Nat) (H1:Hp) (a2 n2 H2:_) (b3:Nat) (a4 n4 H4:_),cV (Ky.int .i64 u3) (λx:aF=>Value.agg #[.int .i64 x.Id,.int .i64 x.Cell,.int .i64 x.Goal]) x.cU.live a1 H1/\aj (Fl.int .i64) 3 x.cU.order a2 n2 H2/\aj (Fl.int .u32) 65 x.floor.words a4 n4 H4/\H=List.flatten [(cl b 146 [(ii x.w),(ii x.h),(ii x.most),(pp b0),(pp b3)]),(cl b0 178 [(ii x.cU.most),(ii x.cU.next),(.map (some a1)),(ll a2 x.cU.order n2)]),H1,H2,(cl b3 221 [(ll a4 x.floor.words n4),(ii x.floor.count)]),H4]
def BT (o:Option dN) (v0:Value) (H:Hp):Prop:=match o with
 |none=>v0= .pointer none/\H=[]
 |some y=> ∃(b0:Nat) (H0:Hp),lJ y b0 H0/\v0=(pp b0)/\H=List.flatten [H0]
def fQ (x:bH) (b:Nat) (H:Hp):Prop:= ∃(b0:Nat) (H0:Hp) (v0:Value) (Ho:Hp),gW x.nav b0 H0/\BT x.cZ v0 Ho/\H=List.flatten [(cl b 103 [(ii x.most),(pp b0),v0]),H0,Ho]
@[reducible] def Yv (o : Option bH) (v : Value) (G : List Hp) : Prop := match o with
 |none=>v= .pointer none/\G=[]
 |some x=> ∃(b:Nat) (H:Hp),fQ x b H/\v= .pointer (some ⟨b,0,none⟩)/\G=[H]
@[reducible] def Ym (o : Option bC) (v : Value) (G : List Hp) : Prop := match o with
 |none=>v= .pointer none/\G=[]
 |some x=> ∃(b:Nat) (H:Hp),iP x b H/\v= .pointer (some ⟨b,0,none⟩)/\G=[H]
@[reducible] def Yp (w0 : Nat) (o : Option dM) (v : Value) (G : List Hp) : Prop := match o with
 |none=>v= .pointer none/\G=[]
 |some x=> ∃(b:Nat) (H:Hp),mQ x b w0 H/\v= .pointer (some ⟨b,0,none⟩)/\G=[H]
@[reducible] def Ys (w0 : Nat) (w1 : Nat) (o : Option ki) (v : Value) (G : List Hp) : Prop := match o with
 |none=>v= .pointer none/\G=[]
 |some x=> ∃(b:Nat) (H:Hp),uw x b w0 w1 H/\v= .pointer (some ⟨b,0,none⟩)/\G=[H]
@[reducible] def Yw (o : Option fk) (v : Value) (G : List Hp) : Prop := match o with
 |none=>v= .pointer none/\G=[]
 |some x=> ∃(b:Nat) (a0:Nat) (H0:Hp) (a1 n1 H1:_),cV (Ky.int .i64 u3) (λx:aF=>Value.agg #[.int .i64 x.Id,.int .i64 x.Cell,.int .i64 x.Goal]) x.live a0 H0/\aj (Fl.int .i64) 3 x.order a1 n1 H1/\v= .pointer (some ⟨b,0,none⟩)/\G=[(cl b 178 [(ii x.most),(ii x.next),(.map (some a0)),(ll a1 x.order n1)]),H0,H1]
@[reducible] def Yl (o : Option fA) (v : Value) (G : List Hp) : Prop := match o with
 |none=>v= .pointer none/\G=[]
 |some x=> ∃(b:Nat) (a0 n0 H0:_),aj (Fl.int .u32) 65 x.words a0 n0 H0/\v= .pointer (some ⟨b,0,none⟩)/\G=[(cl b 221 [(ll a0 x.words n0),(ii x.count)]),H0]
@[reducible] def Yk (o : Option dN) (v : Value) (G : List Hp) : Prop := match o with
 |none=>v= .pointer none/\G=[]
 |some x=> ∃(b:Nat) (H:Hp),lJ x b H/\v= .pointer (some ⟨b,0,none⟩)/\G=[H]
def ky (x:eO) (b:Nat) (H:Hp):Prop:=yo WS [.int .i64 x.ba,.int .i64 x.len] x.buckets b 396 H/\List.length x.buckets=256
@[reducible] def Yr (o : Option eO) (v : Value) (G : List Hp) : Prop := match o with
 |none=>v= .pointer none/\G=[]
 |some x=> ∃(b:Nat) (H:Hp),ky x b H/\v= .pointer (some ⟨b,0,none⟩)/\G=[H]
@[reducible] def Yn (o : Option e_) (v : Value) (G : List Hp) : Prop := match o with
 |none=>v= .pointer none/\G=[]
 |some x=> ∃(b:Nat) (a0 n0 H0:_),aj fL 359 x.l a0 n0 H0/\v= .pointer (some ⟨b,0,none⟩)/\G=[(cl b 357 [(ll a0 x.l n0)]),H0]
@[reducible] def Yt (o : Option ic) (v : Value) (G : List Hp) : Prop := match o with
 |none=>v= .pointer none/\G=[]
 |some x=> ∃(b:Nat) (a0 n0 H0:_),aj (Fl.int .i32) 21 x.aQ a0 n0 H0/\v= .pointer (some ⟨b,0,none⟩)/\G=[(cl b 235 [(ii x.goal),(ii x.bM),(ll a0 x.aQ n0)]),H0]
def Yx (r:Option ic) (x:ki) (b:Nat) (l0:Nat) (l1:Nat) (u:Value) (H:Hp):Prop:=match r with
 |none=>u= .pointer none/\uw x b l0 l1 H
 |some y=>x.kept=some y/\ ∃(b0:Nat) (a1 n1 H1:_),aj (Fl.int .i32) 21 y.aQ a1 n1 H1/\u= .pointer (some ⟨b0,0,none⟩)/\H=List.flatten [(cl b 233 [(pp l0),(pp l1),(pp b0),(uu x.count)]),List.flatten [(cl b0 235 [(ii y.goal),(ii y.bM),(ll a1 y.aQ n1)]),H1]]
abbrev QR:=CR Tryz.prog
abbrev QU:=CU Tryz.prog
abbrev bg:=Value->List Hp->Prop
theorem dJ {p:Prop} (h:p:=by first|rfl|(simp only[ll,List.length_set];rfl)):p:=h
end Go.Proofs.YthodkonhneebbaaGreatDoor
