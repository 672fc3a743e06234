/- The logic of this claim: what holds of slots and blocks while a piece of Go code runs, rule by rule. -/
import Derived.WalkKit
import Derived.Deep.Quiet
import Derived.OrdersHeld
import Derived.ProofKit
import Derived.OpenShut
import Derived.ChangeOld
import Derived.Below
import Derived.ChangeSlices
import Derived.KernelRfl
namespace Go
theorem U {p:Prop} (h:p:=by omega):p:=h
theorem J {α:Sort _} {a:α}:a=a:=rfl
theorem aA {p:Prop} (h:p:=by kernel_rfl):p:=h
theorem bd {p:Prop} (h:p:=by simp):p:=h
theorem bo {p:Prop} (h:p:=by simp;omega):p:=h
theorem SF_ {p:Prop} (h:p:=by first|(simp;done)|(simp;omega)):p:=h
theorem ah {c:Prop} {h:Decidable c} (hc:c) {α:Sort _} {t e:α}:ite c t e=t:=if_pos hc
theorem aj {c:Prop} {h:Decidable c} (J1: ¬c) {α:Sort _} {t e:α}:ite c t e=e:=if_neg J1
theorem aM {α β:Type _} (a:α) (f:α->Option β):(some a).bind f=f a:=rfl
end Go
namespace Go.Hx
set_option autoImplicit true
set_option relaxedAutoImplicit true
set_option linter.unusedVariables false
set_option linter.unusedSimpArgs false
set_option linter.unusedSectionVars false
section
variable {W : World}
abbrev Env:=List (Nat×Value)
abbrev Hp:=List (Nat×Obj)
def bl (W w:World) (H:Hp):Prop:=(w.os=W.os/\w.tape=W.tape/\w.output=W.output/\W.drawn<=w.drawn)/\(H.map (·.1)).Nodup/\ ∀c∈H,w.heap[c.1]? =some c.2
theorem xk {a b:Nat} (h: ¬a=b):Nat.beq a b=false:=by
 cases e:Nat.beq a b
 ·rfl
 ·exact absurd (Nat.eq_of_beq_eq_true e) h
def lk (k:Nat):Env->Option Value
 |[]=>none
 |e::r=>bif Nat.beq k e.1 then some e.2 else lk k r
def iy (n:Nat) (t:Array Value) (env:Env):Prop:=t.size=n/\ ∀k v,lk k env=some v->t[k]? =some v
def At (W:World) (n:Nat) (F:Act->World->Prop) (env:Env) (H:Hp):Prop:=
 ∀t w,iy n t env->bl W w H->F ⟨t,[]⟩ w
def ev (env:Env):Operand->Option Value
 | .tmp k=>lk k env
 | .const v=>some v
 | .global g=>some (.pointer (some ⟨g,0,none⟩))
 | .func f=>some (.func (.func f) #[] #[])
theorem bE {n:Nat} {t:Array Value} {env:Env} {x:Operand} {v:Value} (hs:iy n t env) (h:ev env x=some v):
 Act.eval ⟨t,[]⟩ x=v:=by
 cases x with
 |tmp k=>have:=hs.2 k v h;simp[Act.eval,Array.getD_eq_getD_getElem?,this]
 |const c=>simpa[ev,Act.eval] using h
 |global g=>simpa[ev,Act.eval] using h
 |func f=>simpa[ev,Act.eval] using h
theorem iy.put {n:Nat} {t:Array Value} {env:Env} {d:Nat} {v:Value} (hs:iy n t env) (hd:d<n):
 iy n (t.setIfInBounds d v) ((d,v)::env):=by
 refine⟨by simp[hs.1],λk u h=>?_⟩
 simp only[lk] at h
 by_cases hk:k=d
 ·subst hk;have:Nat.beq k k=true:=by simp
  rw[this] at h;simp at h;subst h;simp[hs.1,hd]
 ·have:Nat.beq k d=false:=xk hk;rw[this] at h;simp at h;have:=hs.2 k u h;rw[Array.getElem?_setIfInBounds_ne U];exact this
def sub (fC env:Env):Prop:=
 match fC with
 |[]=>True
 |e::r=>lk e.1 env=some e.2/\sub r env
theorem WU {env:Env}: ∀{fC:Env} {k:Nat} {v:Value},sub fC env->lk k fC=some v->lk k env=some v
 |[],_,_,_,h=>by simp[lk] at h
 |e::r,k,v,hs,h=>by
  simp only[lk] at h
  by_cases hk:k=e.1
  ·subst hk;have:Nat.beq e.1 e.1=true:=by simp
   rw[this] at h;simp at h;rw[<-h];exact hs.1
  ·have:Nat.beq k e.1=false:=xk hk;rw[this] at h;simp at h;exact WU hs.2 h
theorem iy.sub {n:Nat} {t:Array Value} {env fC:Env} (h:sub fC env) (hs:iy n t env):iy n t fC:=
 ⟨hs.1,λk v hk=>hs.2 k v (WU h hk)⟩
theorem bl.lookup {w:World} {H:Hp} {b:Nat} {o:Obj} (h:bl W w H) (hm:(b,o)∈H):w.heap[b]? =some o:=h.2.2 _ hm
theorem bl.lt {w:World} {H:Hp} {b:Nat} {o:Obj} (h:bl W w H) (hm:(b,o)∈H):b<w.heap.size:=by
 have:=h.lookup hm;exact(Array.getElem?_eq_some_iff.1 this).1
theorem bl.perm {w:World} {H H':Hp} (h:bl W w H) (hp:H.Perm H'):bl W w H':=
 ⟨h.1,(hp.map _).nodup_iff.1 h.2.1,λc hc=>h.2.2 c (hp.mem_iff.2 hc)⟩
theorem bl.sub {w:World} {H H':Hp} (h:bl W w H) (hp:H'.Sublist H):bl W w H':=
 ⟨h.1,h.2.1.sublist (hp.map _),λc hc=>h.2.2 c (hp.subset hc)⟩
theorem bl.left {w:World} {A B:Hp} (h:bl W w (A++B)):bl W w A:=h.sub (List.sublist_append_left _ _)
theorem bl.right {w:World} {A B:Hp} (h:bl W w (A++B)):bl W w B:=h.sub (List.sublist_append_right _ _)
theorem bl.drew {w:World} {H:Hp} (h:bl W w H):bl W w.drew H:=⟨⟨h.1.1,h.1.2.1,h.1.2.2.1,Nat.le_succ_of_le h.1.2.2.2⟩,h.2⟩
theorem bl.alloc {w:World} {H:Hp} (o:Obj) (h:bl W w H):bl W (w.alloc o) ((w.heap.size,o)::H):=by
 refine⟨h.1,?_,?_⟩
 ·simp only[List.map_cons,List.nodup_cons];refine⟨?_,h.2.1⟩;intro hm;obtain⟨c,hc,he⟩:=List.mem_map.1 hm;have:=h.lt (b:=c.1) (o:=c.2) hc;omega
 ·intro c hc;rcases List.mem_cons.1 hc with rfl |hc
  ·show(w.heap.push o)[w.heap.size]? =some o
   simp
  ·have hl:=h.lt (b:=c.1) (o:=c.2) hc;have:=h.2.2 c hc
   show(w.heap.push o)[c.1]? =some c.2
   rw[Array.getElem?_push];have: ¬c.1=w.heap.size:=U;simp[this,h.2.2 c hc]
theorem bl.turn {w w':World} {H:Hp} {b:Nat} {o o':Obj} (h:bl W w ((b,o)::H)) (e:w'.heap=w.heap.setIfInBounds b o') (e1:w'.os=w.os) (e2:w'.tape=w.tape) (e3:w'.output=w.output) (e4:w'.drawn=w.drawn:=by rfl):
 bl W w' ((b,o')::H):=by
 have hl:=h.lt (b:=b) (o:=o) (by simp)
 refine⟨⟨e1.trans h.1.1,e2.trans h.1.2.1,e3.trans h.1.2.2.1,e4▸h.1.2.2.2⟩,by simpa using h.2.1,?_⟩
 intro c hc;rcases List.mem_cons.1 hc with rfl |hc
 ·rw[e];simp[hl]
 ·rw[e];have bI:c.1≠b:=by
   intro he;have hn:=h.2.1;simp only[List.map_cons,List.nodup_cons] at hn;exact hn.1 (List.mem_map.2 ⟨c,hc,he⟩)
  rw[Array.getElem?_setIfInBounds_ne U];exact h.2.2 c (List.mem_cons_of_mem _ hc)
theorem bl.cell {w:World} {H:Hp} {b:Nat} {c:Array Value} {T:TypeId} {fr:Nat×Nat} {off:Nat} {v:Value} (h:bl W w H)
 (hm:(b,Obj.cells c T fr)∈H) (hv:c[off]? =some v):w.cell? ⟨b,off,none⟩=some v:=by
 have:=h.lookup hm;simp[World.cell?,this,hv]
theorem bl.La {w:World} {H:Hp} {b:Nat} {c:Array Value} {T:TypeId} {off:Nat} (h:bl W w H)
 (hm:(b,Obj.cells c T (0,0))∈H):w.frozen? ⟨b,off,none⟩=false:=by
 have:=h.lookup hm;simp[World.frozen?,this]
theorem aht {w:World} {b off:Nat} {c:Array Value} {T:TypeId} {fr:Nat×Nat} {v:Value} (h:w.heap[b]? =some (.cells c T fr)):
 (w.setCell ⟨b,off,none⟩ v).heap=w.heap.setIfInBounds b (.cells (c.setIfInBounds off v) T fr):=by
 obtain⟨hl,he⟩:=Array.getElem?_eq_some_iff.1 h;simp only[World.setCell];apply Array.ext_getElem?;intro i;rw[Array.getElem?_modify]
 by_cases hi:b=i
 ·subst hi;simp[hl];rw[he]
 ·simp[Array.getElem?_setIfInBounds_ne hi,hi]
theorem bl.setCell {w:World} {H:Hp} {b off:Nat} {c:Array Value} {T:TypeId} {v:Value} (h:bl W w ((b,.cells c T (0,0))::H)):
 bl W (w.setCell ⟨b,off,none⟩ v) ((b,.cells (c.setIfInBounds off v) T (0,0))::H):=
 h.turn (aht (h.lookup (by simp))) rfl rfl rfl
end
section
variable {W : World}
section rules
variable {P : Program} {n : Nat} {Q : Exit -> Act -> World -> Prop} {env : Env} {H : Hp}
theorem At.mono {F G:Act->World->Prop} (h:At W n F env H) (hf: ∀a w,F a w->G a w):At W n G env H:=
 λt w hs ho=>hf _ _ (h t w hs ho)
theorem Ze {F:Act->World->Prop} (fC:Env) (hs:sub fC env) (h:At W n F fC H):At W n F env H:=
 λt w s o=>h t w (s.sub hs) o
theorem po {F:Act->World->Prop} {H':Hp} (hh: ∀w,bl W w H->bl W w H') (h:At W n F env H'):At W n F env H:=
 λt w s o=>h t w s (hh w o)
theorem Y' (h:At W n (Q .normal) env H):At W n (Code.skip.wp P Q) env H:=λt w s o=>wp_skip (h t w s o)
theorem at_ret (h:At W n (Q .ret) env H):At W n (Code.ret.wp P Q) env H:=λt w s o=>wp_ret (h t w s o)
theorem YU {id:Nat} (h:At W n (Q (.exit id)) env H):At W n ((Code.exit id).wp P Q) env H:=λt w s o=>wp_exit (h t w s o)
theorem Qv {x y:Code} (h:At W n (x.wp P (Exit.then (y.wp P Q) Q)) env H):At W n ((Code.seq x y).wp P Q) env H:=
 λt w s o=>wp_seq (h t w s o)
theorem YM {id:Nat} {c:Code} (h:At W n (c.wp P (Exit.inBlock id Q)) env H):At W n ((Code.block id c).wp P Q) env H:=
 λt w s o=>wp_block (h t w s o)
theorem BV {c:Operand} {x y:Code} {b:Bool} (hc:ev env c=some (.bool b)) (ht:b=true->At W n (x.wp P Q) env H)
 (hf:b=false->At W n (y.wp P Q) env H):At W n ((Code.cond c x y).wp P Q) env H:=λt w s o=>by
 refine wp_cond (t:=b) (bE s hc) ?_
 cases b
 ·exact hf rfl t w s o
 ·exact ht rfl t w s o
theorem nL {c:Operand} {x y:Code} (hc:ev env c=some (.bool true)) (h:At W n (x.wp P Q) env H):At W n ((Code.cond c x y).wp P Q) env H:=
 BV hc (λ_=>h) (λe=>by cases e)
theorem e_ {c:Operand} {x y:Code} (hc:ev env c=some (.bool false)) (h:At W n (y.wp P Q) env H):At W n ((Code.cond c x y).wp P Q) env H:=
 BV hc (λe=>by cases e) (λ_=>h)
theorem Zf {K:Act->World->Prop} (h:At W n K env H):At W n (Exit.then K Q .normal) env H:=h
theorem YS {F:Act->World->Prop} {fC:Env} {H':Hp} (hs:sub fC env) (hh: ∀w,bl W w H->bl W w H') (h:At W n F fC H'):At W n F env H:=
 λt w s o=>h t w (s.sub hs) (hh w o)
def Round {σ:Type} (W:World) (n:Nat) (I:σ->Prop) (E:σ->Env) (G:σ->Hp) (m:σ->Nat) (s:σ):Act->World->Prop:=λa w=>
 ∃s',I s'/\m s'<m s/\ ∃t,a=⟨t,[]⟩/\iy n t (E s')/\bl W w (G s')
theorem Y7 {σ:Type} {I:σ->Prop} {E:σ->Env} {G:σ->Hp} {m:σ->Nat} {s:σ} (s':σ) (hi:I s') (hm:m s'<m s) (hs:sub (E s') env)
 (hh: ∀w,bl W w H->bl W w (G s')):At W n (Round W n I E G m s) env H:=
 λt w sl o=>⟨s',hi,hm,t,rfl,sl.sub hs,hh w o⟩
theorem at_loop {c:Code} {σ:Type} (I:σ->Prop) (E:σ->Env) (G:σ->Hp) (m:σ->Nat) (s0:σ) (hi:I s0) (hs:sub (E s0) env)
 (hh: ∀w,bl W w H->bl W w (G s0)) (round: ∀s,I s->At W n (c.wp P (Exit.then (Round W n I E G m s) Q)) (E s) (G s)):
 At W n ((Code.loop c).wp P Q) env H:=by
 intro t w sl o b k cs;have key: ∀j s,I s->m s=j-> ∀t w,iy n t (E s)->bl W w (G s)->
  ∃e a' w',Q e a' w'/\Arrives P (lone (b.at ⟨t,[]⟩ (.code c:: .inLoop c::k)) cs w) b k cs e a' w':=by
  intro j
  induction j using Nat.strongRecOn with
  |_ j ih=>
   intro s hI hj t w sl o;obtain⟨e,a₁,w₁,hq,xA⟩:=round s hI t w sl o b (.inLoop c::k) cs
   cases e with
   |normal=>
    obtain⟨s',hI',aS,t',rfl,sl',o'⟩:=hq;obtain⟨e₂,a₂,w₂,hq₂,xA₂⟩:=ih (m s') (hj▸aS) s' hI' rfl t' w₁ sl' o';exact⟨e₂,a₂,w₂,hq₂,.of_steps (Steps.trans xA (.one step_inLoop)) xA₂⟩
   |exit id=>exact⟨_,a₁,w₁,hq,.pass (x:= .inLoop c) rfl (λ_ _=> .inl (by simp)) xA⟩
   |goto l=>exact⟨_,a₁,w₁,hq,.pass (x:= .inLoop c) rfl (λ_ _=> .inl (by simp)) xA⟩
   |ret=>exact⟨_,a₁,w₁,hq,.pass (x:= .inLoop c) rfl (λ_ _=> .inl (by simp)) xA⟩
   |panic ch=>exact⟨_,a₁,w₁,hq,.pass (x:= .inLoop c) rfl (λ_ _=> .inl (by simp)) xA⟩
   |outgrown=>exact⟨_,a₁,w₁,hq,.pass (x:= .inLoop c) rfl (λ_ _=> .inl (by simp)) xA⟩
 obtain⟨e,a',w',hq,xA⟩:=key _ s0 hi rfl t w (sl.sub hs) (hh w o);exact⟨e,a',w',hq,.of_steps (.one step_loop) xA⟩
variable {ops : Array Oper} {i : Nat} {K : Act -> World -> Prop} {o : Oper}
theorem at_region {id:Nat} (l:List Nat) (hl:List.range ops.size=l) (h:At W n (wpOps P ops Q l) env H):At W n ((Code.region id ops false).wp P Q) env H:=
 λt w s ow=>wp_region (hl▸h t w s ow)
theorem at_end (h:At W n (Q .normal) env H):At W n (wpOps P ops Q []) env H:=h
theorem aV {rest:List Nat} (h:At W n (wpOp P ops Q i (wpOps P ops Q rest)) env H):At W n (wpOps P ops Q (i::rest)) env H:=
 λt w s ow=>by rw[wpOps_cons];exact h t w s ow
def want (ops:Array Oper) (env:Env) (o:Oper):Option Bool:=
 match o.guard with
 |none=>some true
 |some (j,b)=>
  match(ops[j]?).bind (·.dst) with
  |none=>none
  |some s=>match lk s env with
   |some (.bool c)=>some (c==b)
   |some _=>some false
   |none=>none
theorem BB {t:Array Value} {b:Bool} (s:iy n t env) (h:want ops env o=some b):Region.wanted o (yielded ops t)=b:=by
 unfold want at h;unfold Region.wanted
 cases hg:o.guard with
 |none=>simp[hg] at h;simp[h]
 |some jb=>
  obtain⟨j,c⟩:=jb;simp only[hg] at h⊢
  cases hd:(ops[j]?).bind (·.dst) with
  |none=>simp[hd] at h
  |some d=>
   simp only[hd] at h
   cases hl:lk d env with
   |none=>simp[hl] at h
   |some v=>
    simp only[hl] at h;have hs:=s.2 d _ hl
    cases v
    case bool x=>
     have hy:yielded ops t j=some x:=by
      unfold yielded;rw[hd];simp[hs]
     have h:some (x==c)=some b:=h;injection h with h
     rw[hy,<-h]
     cases x<;>cases c<;>rfl
    all_goals
     have hy:yielded ops t j=none:=by
      unfold yielded;rw[hd];simp[hs]
     have h:some false=some b:=h;injection h with h
     rw[hy,<-h]
     cases c<;>rfl
theorem LP {d:Nat} (ho:ops[i]? =some o) (hw:want ops env o=some false) (hd:o.dst=some d) (hn:d<n)
 (h:At W n K ((d,undef)::env) H):At W n (wpOp P ops Q i K) env H:=by
 intro t w s ow;have:=h _ w (s.put (v:=undef) hn) ow;unfold wpOp;simp only[ho,BB s hw];simpa[Act.put,hd] using this
theorem IZ (ho:ops[i]? =some o) (hw:want ops env o=some true)
 (h:At W n (λa w=>o.upon P a K Q ((execOp a.eval o).run P w)) env H):At W n (wpOp P ops Q i K) env H:=by
 intro t w s ow;have:=h t w s ow;unfold wpOp;simp only[ho,BB s hw,if_true];exact .inl this
theorem Qw {d:Nat} {v:Value} (ho:ops[i]? =some o) (hw:want ops env o=some true) (hd:o.dst=some d) (hn:d<n)
 (hv: ∀t w,iy n t env->bl W w H->(execOp (Act.eval ⟨t,[]⟩) o).run P w= .ok (.value v) w)
 (h:At W n K ((d,v)::env) H):At W n (wpOp P ops Q i K) env H:=by
 refine IZ ho hw λt w s ow=>?_
 show o.upon P ⟨t,[]⟩ K Q ((execOp (Act.eval ⟨t,[]⟩) o).run P w)
 rw[hv t w s ow,Oper.upon_value];have:=h _ w (s.put (v:=v) hn) ow;simpa[Act.put,hd] using this
theorem yX {d:Nat} {β:Type} {V:β->Value} {G:β->Hp} (ho:ops[i]? =some o) (hw:want ops env o=some true) (hd:o.dst=some d) (hn:d<n)
 (hv: ∀t w,iy n t env->bl W w H-> ∃b w',(execOp (Act.eval ⟨t,[]⟩) o).run P w= .ok (.value (V b)) w'/\bl W w' (G b))
 (h: ∀b,At W n K ((d,V b)::env) (G b)):At W n (wpOp P ops Q i K) env H:=by
 refine IZ ho hw λt w s ow=>?_
 show o.upon P ⟨t,[]⟩ K Q ((execOp (Act.eval ⟨t,[]⟩) o).run P w)
 obtain⟨b,w',hr,cD⟩:=hv t w s ow;rw[hr,Oper.upon_value];have:=h b _ w' (s.put (v:=V b) hn) cD;simpa[Act.put,hd] using this
theorem I2 {β:Type} {G:β->Hp} (ho:ops[i]? =some o) (hw:want ops env o=some true) (hd:o.dst=none)
 (hv: ∀t w,iy n t env->bl W w H-> ∃b w',((execOp (Act.eval ⟨t,[]⟩) o).run P w= .ok .skip w'∨ ∃v,(execOp (Act.eval ⟨t,[]⟩) o).run P w= .ok (.value v) w')/\bl W w' (G b))
 (h: ∀b,At W n K env (G b)):At W n (wpOp P ops Q i K) env H:=by
 refine IZ ho hw λt w s ow=>?_
 show o.upon P ⟨t,[]⟩ K Q ((execOp (Act.eval ⟨t,[]⟩) o).run P w)
 obtain⟨b,w',hr,cD⟩:=hv t w s ow;have:=h b _ w' s cD;rcases hr with hr |⟨v,hr⟩
 ·rw[hr,Oper.upon_skip];simpa[Act.put,hd] using this
 ·rw[hr,Oper.upon_value];simpa[Act.put,hd] using this
theorem YP {d:Nat} {f:FuncId} {args:Array Value} {β:Type} {V:β->Value} {G:β->Hp} (ho:ops[i]? =some o) (hw:want ops env o=some true) (hd:o.dst=some d) (hn:d<n)
 (hv: ∀t w,iy n t env->bl W w H->(execOp (Act.eval ⟨t,[]⟩) o).run P w= .ok (.enter f args) w)
 (hc: ∀w,bl W w H->Calls P f args w λe w'=> ∃b,e= .returned (V b)/\bl W w' (G b))
 (h: ∀b,At W n K ((d,V b)::env) (G b)):At W n (wpOp P ops Q i K) env H:=by
 refine IZ ho hw λt w s ow=>?_
 show o.upon P ⟨t,[]⟩ K Q ((execOp (Act.eval ⟨t,[]⟩) o).run P w)
 rw[hv t w s ow,Oper.upon_enter];refine(hc w ow).mono λe w' ⟨b,he,cD⟩=>?_
 subst he;have:=h b _ w' (s.put (v:=V b) hn) cD;simpa[Act.put,hd] using this
end rules
theorem aac {P:Program} {f:FuncId} {fn:Func} {c:Code} {args:Array Value} {R:Ending->World->Prop} {H:Hp} (env:Env)
 (hf:P.funcs[f]? =some fn) (hb:fn.body=some c) (hn:args.size<=fn.ntmps) (hs:sub env ((args.toList.zipIdx).map λx=>(x.2,x.1)))
 (h:At W fn.ntmps (c.wp P (bodyPost P fn R)) env H) (w:World) (ow:bl W w H):Calls P f args w R:=by
 refine calls_of_wp hf hb (h _ w ?_ ow);refine iy.sub hs ⟨by simp;omega,λk v hk=>?_⟩
 have: ∀(l:List Value) (m:Nat) (k:Nat) (v:Value),lk k ((l.zipIdx m).map λx=>(x.2,x.1))=some v->m<=k/\l[k-m]? =some v:=by
  intro l
  induction l with
  |nil=>intro m k v h;simp[lk] at h
  |cons a l ih=>
   intro m k v h;simp only[List.zipIdx_cons,List.map_cons,lk] at h
   by_cases hk:k=m
   ·subst hk;have:Nat.beq k k=true:=by simp
    rw[this] at h;simpa using h
   ·rw[xk hk] at h;simp only[cond_false] at h;obtain⟨h1,h2⟩:=ih (m+1) k v h;refine⟨by omega,?_⟩
    have:k-m=(k-(m+1))+1:=U;rw[this];simpa using h2
 obtain⟨_,h2⟩:=this args.toList 0 k v hk;have h3:args[k]? =some v:=by simpa using h2
 have hl:=(Array.getElem?_eq_some_iff.1 h3).1;rw[Array.getElem?_append];simp[hl];exact(Array.getElem?_eq_some_iff.1 h3).2
end
section
variable {W : World}
structure Ty (P:Program) where
 bW:TypeId->Option TypeDesc
 inf:TypeId->Option (Nat×Nat×Value)
 AX: ∀t d,bW t=some d->P.underlying t=some d
 mM: ∀t s b z,inf t=some (s,b,z)-> ∃i,P.info? t=some i/\i.size=s/\i.bytes=b/\i.zero=some z
variable {P : Program}
theorem cV {T:Ty P} {t:TypeId} {d:TypeDesc} (h:T.bW t=some d) (w:World):(underlying t).run P w= .ok d w:=
 run_underlying (T.AX t d h) w
theorem jZ {T:Ty P} {t:TypeId} {s b:Nat} {z:Value} (h:T.inf t=some (s,b,z)) (w:World):(sizeOf t).run P w= .ok s w:=by
 obtain⟨i,hi,rfl,rfl,_⟩:=T.mM t s b z h;simp[sizeOf,typeInfo,hi]
theorem Bb {T:Ty P} {t:TypeId} {s b:Nat} {z:Value} (h:T.inf t=some (s,b,z)) (w:World):(zeroValue t).run P w= .ok z w:=by
 obtain⟨i,hi,rfl,rfl,hz⟩:=T.mM t s b z h;simp[zeroValue,typeInfo,hi,hz]
def Ul (op:BinOp) (k:IntKind) (a b:Int):Option Value:=
 match op with
 | .add=>some (.int k (k.wrap (a+b)))
 | .sub=>some (.int k (k.wrap (a-b)))
 | .mul=>some (.int k (k.wrap (a*b)))
 | .eql=>some (.bool (a==b))
 | .neq=>some (.bool (a !=b))
 | .lss=>some (.bool (decide (a<b)))
 | .leq=>some (.bool (decide (a<=b)))
 | .gtr=>some (.bool (decide (a>b)))
 | .geq=>some (.bool (decide (a≥b)))
 | .and=>some (.int k (k.wrap (BitVec.ofInt k.bits a&&&BitVec.ofInt k.bits b).toNat))
 | .or=>some (.int k (k.wrap (BitVec.ofInt k.bits a|||BitVec.ofInt k.bits b).toNat))
 | .xor=>some (.int k (k.wrap (BitVec.ofInt k.bits a ^^^ BitVec.ofInt k.bits b).toNat))
 |_=>none
def zy:IntKind->IntKind->Bool
 | .i8,.i8 | .i16,.i16 | .i32,.i32 | .i64,.i64 | .u8,.u8 | .u16,.u16 | .u32,.u32 | .u64,.u64=>true
 |_,_=>false
theorem Kg {a b:IntKind} (h:zy a b=true):a=b:=by cases a<;>cases b<;>first |rfl |cases h
def za (T:Ty P) (op:BinOp) (t:TypeId):Value->Value->Option Value
 | .int k a,.int k' b=>match op with
  | .shl=>match b with
   | .ofNat m=>some (.int k (k.wrap (a*2^(min m k.bits))))
   |_=>none
  | .shr=>match b with
   | .ofNat m=>some (.int k (a.fdiv (2^(min m k.bits))))
   |_=>none
  | .quo=>match b with
   | .ofNat (m+1)=>bif zy k k' then some (.int k (k.wrap (a.tdiv (.ofNat (m+1))))) else none
   |_=>none
  | .rem=>match b with
   | .ofNat (m+1)=>bif zy k k' then some (.int k (a.tmod (.ofNat (m+1)))) else none
   |_=>none
  |_=>bif zy k k' then Ul op k a b else none
 | .bool a,.bool b=>match T.bW t,op with
  |some .bool,.eql=>some (.bool (a==b))
  |some .bool,.neq=>some (.bool (!(a==b)))
  |_,_=>none
 | .pointer a,.pointer none=>match T.bW t,op with
  |some (.pointer _),.eql=>some (.bool a.isNone)
  |some (.pointer _),.neq=>some (.bool (!a.isNone))
  |_,_=>none
 | .slice a _ _,.slice none _ _=>match T.bW t,op with
  |some (.slice _),.eql=>some (.bool a.isNone)
  |some (.slice _),.neq=>some (.bool (!a.isNone))
  |_,_=>none
 | .string a,.string b=>match op with
  | .eql=>some (.bool (a.toList==b.toList))
  | .neq=>some (.bool (!(a.toList==b.toList)))
  |_=>none
 |_,_=>none
theorem Kh {α:Type} {c:Prop} [Decidable c] {a b r:α} (h1:c->a=r) (h2: ¬c->b=r):(if c then a else b)=r:=by
 split
 ·exact h1 ‹_›
 ·exact h2 ‹_›
theorem aa_ {w:World} {op:BinOp} {t:TypeId} {x y:Operand} {a b:Value} (h: ∀u v,¬(a= .agg u/\b= .agg v)) (h2:a≠ .nilIface):
 (eqGuard op t x y a b).run P w= .ok () w:=by
 unfold eqGuard;rw[Sem.run_ite];refine Kh (λ_=>rfl) (λ_=>?_)
 cases a<;>cases b<;>first |rfl |(exact absurd rfl h2) |exact absurd ⟨rfl,rfl⟩ (h _ _)
section eqs
variable {T : Ty P} {t : TypeId} (w : World)
theorem Rz (hu:T.bW t=some .bool) (a b:Bool):(Op.equal t (.bool a) (.bool b)).run P w= .ok (a==b) w:=by
 show(Op.equalIn (9999+1) t _ _).run P w=_
 generalize 9999=d;simp only[Op.equalIn,Sem.run_bind,cV hu,Result.andThen_ok,Sem.run_pure]
theorem RA {e:TypeId} (hu:T.bW t=some (.pointer e)) (a:Option Addr):(Op.equal t (.pointer a) (.pointer none)).run P w= .ok a.isNone w:=by
 show(Op.equalIn (9999+1) t _ _).run P w=_
 generalize 9999=d
 cases a<;>simp only[Op.equalIn,Sem.run_bind,cV hu,Result.andThen_ok,Sem.run_pure,Option.isNone]
theorem RC {e:TypeId} (hu:T.bW t=some (.slice e)) (a:Option Addr) (n c n' c':Nat):(Op.equal t (.slice a n c) (.slice none n' c')).run P w= .ok a.isNone w:=by
 show(Op.equalIn (9999+1) t _ _).run P w=_
 generalize 9999=d
 cases a<;>simp only[Op.equalIn,Sem.run_bind,cV hu,Result.andThen_ok,Sem.run_pure,Option.isNone]
end eqs
theorem LZ {T:Ty P} {op:BinOp} {t:TypeId} {x y:Operand} {a b v:Value} (h:za T op t a b=some v) (w:World):
 (do eqGuard op t x y a b;binOp op t a b).run P w= .ok v w:=by
 have hg:(eqGuard op t x y a b).run P w= .ok () w:=by
  apply aa_
  ·rintro u v ⟨rfl,rfl⟩;simp[za] at h
  ·rintro rfl;simp[za] at h
 rw[Sem.run_bind,hg,Result.andThen_ok];unfold za at h;split at h
 ·rename_i k a k' b;split at h
  ·split at h
   ·rename_i m;simp at h;subst h;have: ¬((m:Int)<0):=U;simp[binOp,Op.shift,this]
   ·cases h
  ·split at h
   ·rename_i m;simp at h;subst h;have: ¬((m:Int)<0):=U;simp[binOp,Op.shift,this]
   ·cases h
  ·split at h
   ·rename_i m
    cases hk:zy k k'<;>simp[hk] at h
    obtain rfl:=Kg hk;subst h;have: ¬((m:Int)+1=0):=U;simp[binOp,Op.intDiv,this]
   ·cases h
  ·split at h
   ·rename_i m
    cases hk:zy k k'<;>simp[hk] at h
    obtain rfl:=Kg hk;subst h;have: ¬((m:Int)+1=0):=U;simp[binOp,Op.intDiv,this]
   ·cases h
  ·cases hk:zy k k'<;>simp[hk] at h
   obtain rfl:=Kg hk
   cases op<;>simp[Ul] at h<;>subst h<;>simp[binOp,Op.intArith,Op.intCmp,Op.intBits]
 ·split at h
  ·rename_i hu;simp at h;subst h;simp only[binOp,Sem.run_bind,Rz w hu,Result.andThen_ok,Sem.run_pure]
  ·rename_i hu;simp at h;subst h;simp only[binOp,Sem.run_bind,Rz w hu,Result.andThen_ok,Sem.run_pure]
  ·cases h
 ·split at h
  ·rename_i hu;rw[Option.some.injEq] at h;subst h;simp only[binOp,Sem.run_bind,RA w hu,Result.andThen_ok,Sem.run_pure]
  ·rename_i hu;rw[Option.some.injEq] at h;subst h;simp only[binOp,Sem.run_bind,RA w hu,Result.andThen_ok,Sem.run_pure]
  ·cases h
 ·split at h
  ·rename_i hu;rw[Option.some.injEq] at h;subst h;simp only[binOp,Sem.run_bind,RC w hu,Result.andThen_ok,Sem.run_pure]
  ·rename_i hu;rw[Option.some.injEq] at h;subst h;simp only[binOp,Sem.run_bind,RC w hu,Result.andThen_ok,Sem.run_pure]
  ·cases h
 ·split at h<;>simp at h<;>subst h<;>simp[binOp,Op.stringOp]
 ·cases h
end
section
variable {W : World}
variable {P : Program}
def bL:Value->List Value
 | .agg cs=>cs.toList
 |v=>[v]
theorem rW (v:Value):v.cells.toList=bL v:=by cases v<;>rfl
def gj (cs:List Value) (off:Nat) (vs:List Value):List Value:=cs.take off++(vs++cs.drop (off+vs.length))
def vR (place:Nat->Option (Nat×Nat)) (cells:List Value):List (Nat×Value)->Option (List Value)
 |[]=>some cells
 |(i,v)::rest=>
  match place i with
  |none=>none
  |some (off,size)=>
   bif Nat.beq (bL v).length size&&Nat.ble (off+(bL v).length) cells.length then vR place (gj cells off (bL v)) rest else none
theorem Jh (vs:List Value): ∀(cs:List Value) (off m:Nat),off+m+vs.length<=cs.length->
 (vs.zipIdx m).foldl (λ(a:List Value) (x:Value×Nat)=>a.set (off+x.2) x.1) cs=gj cs (off+m) vs:=by
 induction vs with
 |nil=>intro cs off m h;simp[gj]
 |cons v vs ih=>
  intro cs off m h;simp only[List.length_cons] at h;simp only[List.zipIdx_cons,List.foldl_cons];have:=ih (cs.set (off+m) v) off (m+1) (by simp;omega)
  rw[this];unfold gj;rw[List.set_eq_take_append_cons_drop];have hl:off+m<cs.length:=U;simp only[hl,if_true];have h1:(List.take (off+m) cs).length=off+m:=by simp;omega
  have h2:off+(m+1)=(List.take (off+m) cs).length+1:=U;rw[h2,List.take_append,List.drop_append];simp[h1,List.take_of_length_le]
  congr 2
  ·rw[show off+m+1+vs.length-(off+m)=vs.length+1 by omega]
   simp[List.drop_drop];have:List.drop (off+m+1+vs.length) (List.take (off+m) cs)=[]:=by
    apply List.drop_eq_nil_of_le;simp;omega
   simp[this]
   congr 1
   omega
theorem My (place:Nat->Option (Nat×Nat)) (parts:List (Nat×Value)): ∀(cells:Array Value) (out:List Value),
 vR place cells.toList parts=some out->Instr.fill place cells parts=some out.toArray:=by
 induction parts with
 |nil=>intro cells out h;simp[vR] at h;subst h;simp[Instr.fill]
 |cons p rest ih=>
  intro cells out h;obtain⟨i,v⟩:=p;simp only[vR] at h;simp only[Instr.fill]
  cases hp:place i with
  |none=>simp[hp] at h
  |some os=>
   obtain⟨off,size⟩:=os;simp only[hp] at h⊢
   cases hb:(Nat.beq (bL v).length size&&Nat.ble (off+(bL v).length) cells.toList.length) with
   |false=>rw[hb] at h;cases h
   |true=>
    simp only[hb,cond_true] at h;simp only[Bool.and_eq_true] at hb;have e1:=Nat.eq_of_beq_eq_true hb.1;have e2:=Nat.le_of_ble_eq_true hb.2;have e3:v.cells.size=(bL v).length:=by rw[<-rW];simp
    have e4: ¬(v.cells.size≠size∨off+v.cells.size>cells.size):=by
     rw[e3];simp at e2;omega
    have e5:(decide (v.cells.size≠size)||decide (off+v.cells.size>cells.size))=false:=by
     simpa using e4
    have e6:(v.cells.zipIdx.foldl (λcs (c,j)=>cs.setIfInBounds (off+j) c) cells)=(gj cells.toList off (bL v)).toArray:=by
     have hf:=Jh (bL v) cells.toList off 0 (by simpa using e2)
     have key: ∀(l:List (Value×Nat)) (a:Array Value),(l.foldl (λcs (x:Value×Nat)=>cs.setIfInBounds (off+x.2) x.1) a).toList=l.foldl (λ(a:List Value) (x:Value×Nat)=>a.set (off+x.2) x.1) a.toList:=by
      intro l
      induction l with
      |nil=>intro a;rfl
      |cons x l ih=>intro a;simp only[List.foldl_cons];rw[ih];simp
     apply Array.ext';rw[<-Array.foldl_toList];rw[key];rw[Array.toList_zipIdx,rW];simpa using hf
    have:=ih ((gj cells.toList off (bL v)).toArray) out (by simpa using h)
    rw[if_neg (by simpa using e4)]
    rw[e6];exact this
end
section
variable {W : World}
variable {P : Program}
def Ez (T:Ty P):List Field->Option (List (Nat×Nat))
 |[]=>some []
 |f::r=>match T.inf f.type,Ez T r with
  |some (s,_,_),some l=>some ((f.offset,s)::l)
  |_,_=>none
theorem run_places {T:Ty P} (w:World): ∀(fs:List Field) (l:List (Nat×Nat)),Ez T fs=some l->
 (fs.mapM λf=>(do pure (f.offset,<-sizeOf f.type):Sem (Nat×Nat))).run P w= .ok l w:=by
 intro fs
 induction fs with
 |nil=>intro l h;simp[Ez] at h;subst h;simp
 |cons f r ih=>
  intro l h;simp only[Ez] at h;split at h
  ·rename_i s b z l' h1 h2;simp at h;subst h;rw[List.mapM_cons,Sem.run_bind,Sem.run_bind,jZ h1,Result.andThen_ok,Sem.run_pure,Result.andThen_ok,Sem.run_bind,ih _ h2,Result.andThen_ok,Sem.run_pure]
  ·cases h
def idx {α:Type}:Nat->List α->Option α
 |_,[]=>none
 |0,a::_=>some a
 |n+1,_::r=>idx n r
theorem idx_eq {α:Type}: ∀(n:Nat) (l:List α),idx n l=l[n]?
 |_,[]=>by simp[idx]
 |0,a::_=>by simp[idx]
 |n+1,_::r=>by simp[idx,idx_eq n r]
def nK:TypeDesc->Bool
 | .struct _ | .array _ _=>true
 |_=>false
def Ew (T:Ty P) (t:TypeId) (cs:List Value) (off:Nat):Option Value:=
 match T.bW t,T.inf t with
 |some d,some (s,_,_)=>bif nK d then some (.agg ((cs.drop off).take s).toArray) else idx off cs
 |_,_=>none
theorem EF {T:Ty P} {t:TypeId} {d:TypeDesc} (h:T.bW t=some d) (w:World):(isAgg t).run P w= .ok (nK d) w:=by
 simp[isAgg,cV h]
 cases d<;>simp[nK]
theorem KI {T:Ty P} {t:TypeId} {cs:Array Value} {off:Nat} {v:Value} (h:Ew T t cs.toList off=some v) (w:World):(part t cs off).run P w= .ok v w:=by
 unfold Ew at h;split at h
 ·rename_i d s b z h1 h2;unfold part;rw[Sem.run_bind,EF h1,Result.andThen_ok]
  cases hd:nK d with
  |true=>
   simp only[hd,cond_true,Option.some.injEq] at h;subst h;simp only[if_true,Sem.run_bind,jZ h2,Result.andThen_ok,Sem.run_pure]
   congr 2
   apply Array.ext';simp[List.take_drop,Nat.add_comm]
  |false=>
   simp only[hd,cond_false] at h;rw[idx_eq] at h;have:cs[off]? =some v:=by simpa using h
   simp[this]
 ·cases h
def C2 (T:Ty P) (env:Env):Op->Option Value
 | .move x=>ev env x
 | .assign x=>ev env x
 | .pick c a b=>match ev env c,ev env a,ev env b with
  |some (.bool c),some (.bool x),some (.bool y)=>some (.bool (bif c then x else y))
  |some (.bool c),some x,some y=>some (bif c then x else y)
  |_,_,_=>none
 | .nilCheck x=>match ev env x with
  |some (.pointer (some a))=>some (.pointer (some a))
  |some (.func (.func f) a b)=>some (.func (.func f) a b)
  |_=>none
 | .binOp op t x y _=>match ev env x,ev env y with
  |some a,some b=>za T op t a b
  |_,_=>none
 | .unOp op _ x=>match op,ev env x with
  | .not,some (.bool b)=>some (.bool (!b))
  | .neg,some (.int k n)=>some (.int k (k.wrap (0-n)))
  |_,_=>none
 | .convert src dst x=>match T.bW src,T.bW dst,ev env x with
  |some _,some (.int k),some (.int _ n)=>some (.int k (k.wrap n))
  |some _,some .string,some (.string s)=>some (.string s)
  |_,_,_=>none
 | .extract x i=>match ev env x with
  |some (.tuple vs)=>idx i vs.toList
  |_=>none
 | .makeFunc fn first captured=>match first.toList.mapM (ev env),captured.toList.mapM (ev env) with
  |some a,some b=>some (.func fn a.toArray b.toArray)
  |_,_=>none
 | .fieldAddr s x f=>match T.bW s,ev env x with
  |some (.struct fs),some (.pointer (some ⟨b,o,none⟩))=>match idx f fs.toList with
   |some fd=>match T.inf fd.type with
    |some (n+1,_,_)=>some (.pointer (some ⟨b,o+fd.offset,none⟩))
    |_=>none
   |none=>none
  |_,_=>none
 | .field t x f=>match T.bW t,ev env x with
  |some (.struct fs),some (.agg cs)=>match idx f fs.toList with
   |some fd=>Ew T fd.type cs.toList fd.offset
   |none=>none
  |_,_=>none
 | .build t parts=>match T.bW t,T.inf t with
  |some (.struct fs),some (_,_,z)=>match Ez T fs.toList,(parts.toList.mapM λp=>(ev env p.2).map λv=>(p.1,v)) with
   |some pl,some vs=>match vR (λi=>idx i pl) (bL z) vs with
    |some cs=>some (.agg cs.toArray)
    |none=>none
   |_,_=>none
  |_,_=>none
 | .call ⟨.builtin .len,args,types⟩=>match idx 0 args.toList,idx 0 types.toList with
  |some x,some t=>match T.bW t,ev env x with
   |some (.slice _),some (.slice _ n _)=>some (.int .i64 n)
   |some .string,some (.string s)=>some (.int .i64 s.size)
   |_,_=>none
  |_,_=>none
 | .call ⟨.builtin .min,⟨[x,y]⟩,_⟩=>match ev env x,ev env y with
  |some (.int k a),some (.int _ b)=>some (.int k (if b<a then b else a))
  |_,_=>none
 | .call ⟨.builtin .max,⟨[x,y]⟩,_⟩=>match ev env x,ev env y with
  |some (.int k a),some (.int _ b)=>some (.int k (if b>a then b else a))
  |_,_=>none
 | .call ⟨.builtin .min,⟨[x,y,z]⟩,_⟩=>match ev env x,ev env y,ev env z with
  |some (.int k a),some (.int _ b),some (.int _ c)=>some (.int k (if c<(if b<a then b else a) then c else(if b<a then b else a)))
  |_,_,_=>none
 |_=>none
theorem Mu {n:Nat} {t:Array Value} {env:Env} (hs:iy n t env): ∀{l:List Operand} {vs:List Value},l.mapM (ev env)=some vs->l.map (Act.eval ⟨t,[]⟩)=vs:=by
 intro l
 induction l with
 |nil=>intro vs h;simp at h;simp[h]
 |cons x l ih=>
  intro vs h;rw[List.mapM_cons] at h
  cases h1:ev env x with
  |none=>simp[h1] at h
  |some v=>
   cases h2:l.mapM (ev env) with
   |none=>simp[h1,h2] at h
   |some r=>
    simp[h1,h2] at h;subst h;simp[bE hs h1,ih h2]
theorem Mt {n:Nat} {t:Array Value} {env:Env} (hs:iy n t env): ∀{l:List (Nat×Operand)} {vs:List (Nat×Value)},
 (l.mapM λp=>(ev env p.2).map λv=>(p.1,v))=some vs->(l.map λp=>(p.1,Act.eval ⟨t,[]⟩ p.2))=vs:=by
 intro l
 induction l with
 |nil=>intro vs h;simp at h;simp[h]
 |cons x l ih=>
  intro vs h;rw[List.mapM_cons] at h
  cases h1:ev env x.2 with
  |none=>simp[h1] at h
  |some v=>
   cases h2:(l.mapM λp=>(ev env p.2).map λv=>(p.1,v)) with
   |none=>simp[h1,h2] at h
   |some r=>
    simp[h1,h2] at h;subst h;simp[bE hs h1,ih h2]
theorem KL {T:Ty P} {n:Nat} {t:Array Value} {env:Env} {o:Oper} {v:Value} (hs:iy n t env) (h:C2 T env o.op=some v) (w:World):
 (execOp (Act.eval ⟨t,[]⟩) o).run P w= .ok (.value v) w:=by
 unfold C2 at h;unfold execOp;split at h<;>(try cases h)
 all_goals rename_i heq;simp only[heq]
 ·rw[bE hs h];rfl
 ·rw[bE hs h];rfl
 ·split at h
  ·rename_i h1 h2 h3;simp at h;subst h;rename_i c _ _;simp only[bE hs h1,bE hs h2,bE hs h3]
   cases c<;>simp[asBool]
  ·rename_i oQ hc ha hb;simp at h;subst h;rename_i c _ _ _;simp only[bE hs hc,bE hs ha,bE hs hb]
   cases c<;>simp[asBool]
  ·cases h
 ·split at h
  ·rename_i h1;simp at h;subst h;rw[bE hs h1];rfl
  ·rename_i h1;simp at h;subst h;rw[bE hs h1];rfl
  ·cases h
 ·split at h
  ·rename_i h1 h2;rw[bE hs h1,bE hs h2];rw[Sem.run_bind,LZ h w];rfl
  ·cases h
 ·split at h
  ·rename_i h1;simp at h;subst h;rw[bE hs h1];rfl
  ·rename_i h1;rw[Option.some.injEq] at h;subst h;rw[bE hs h1];rfl
  ·cases h
 ·split at h
  ·rename_i NV Nu h1;simp at h;subst h;rw[bE hs h1];simp[convert,cV NV,cV Nu,Conv.intToInt]
  ·rename_i NV Nu h1;simp at h;subst h;rw[bE hs h1];simp[convert,cV NV,cV Nu]
  ·cases h
 ·split at h
  ·rename_i h1;rw[idx_eq] at h;rw[bE hs h1];simp at h;simp[Instr.extract,h]
  ·cases h
 ·split at h
  ·rename_i h1 h2;simp at h;subst h;rw[<-Mu hs h1,<-Mu hs h2];simp only[Instr.makeFunc,Sem.run_bind,Sem.run_pure,Result.andThen_ok]
   congr 3<;>(apply Array.ext';simp)
  ·cases h
 ·split at h
  ·rename_i fs b off AX h1;split at h
   ·rename_i fd Cn;split at h
    ·rename_i m x y mM;simp at h;subst h;rw[bE hs h1];rw[idx_eq] at Cn;simp at Cn;simp[Instr.fieldAt,cV AX,Cn,Instr.sureAddr,fieldPlace,jZ mM,Addr.add]
     try(intro h0;simp[h0])
    ·cases h
   ·cases h
  ·cases h
 ·split at h
  ·rename_i fs cs AX h1;split at h
   ·rename_i fd Cn;rw[bE hs h1];rw[idx_eq] at Cn;simp at Cn;simp[Instr.field,cV AX,Cn,asAgg,KI h]
   ·cases h
  ·cases h
 ·split at h
  ·rename_i tt parts _ _ fs s b z AX mM;split at h
   ·rename_i pl vs q_ N1;split at h
    ·rename_i cs jR;simp at h;subst h;have h1:bL z=(z.cells).toList:=(rW z).symm;rw[h1] at jR;have h2:=My _ _ _ _ jR;have h3:=run_places w _ _ q_;have h4:=Mt hs N1;have h5:((fs.mapM λf=>(do pure (f.offset,<-sizeOf f.type):Sem (Nat×Nat)))).run P w= .ok pl.toArray w:=by
      rw[Array.mapM_eq_mapM_toList,Sem.run_map,h3];rfl
     simp only[Instr.build,Sem.run_bind,Bb mM,Result.andThen_ok,cV AX,h5];have h6:(parts.map λ(x:Nat×Operand)=>(x.1,Act.eval ⟨t,[]⟩ x.2)).toList=vs:=by rw[<-h4];simp
     have h7:(λi=>pl.toArray[i]?)=(λi=>idx i pl):=by funext i;rw[idx_eq];simp
     have h8:Instr.fill (λi=>pl.toArray[i]?) z.cells ((parts.map λ(x:Nat×Operand)=>(x.1,Act.eval ⟨t,[]⟩ x.2)).toList)=some cs.toArray:=by rw[h6,h7];exact h2
     rw[h8]
     rfl
    ·cases h
   ·cases h
  ·cases h
 ·split at h
  ·rename_i h1 h2;split at h
   ·rename_i hu hx;simp at h;subst h;rw[idx_eq] at h1 h2;simp at h1 h2;simp[resolve,invoke,builtin,Builtin.len_,h1,h2,bE hs hx,cV hu,goInt]
   ·rename_i hu hx;simp at h;subst h;rw[idx_eq] at h1 h2;simp at h1 h2;simp[resolve,invoke,builtin,Builtin.len_,h1,h2,bE hs hx,cV hu,goInt]
   ·cases h
  ·cases h
 ·split at h
  ·rename_i h1 h2;simp at h;subst h;simp[resolve,invoke,builtin,Builtin.min_,Builtin.min2,bE hs h1,bE hs h2]
  ·cases h
 ·split at h
  ·rename_i h1 h2;simp at h;subst h;simp[resolve,invoke,builtin,Builtin.max_,Builtin.max2,bE hs h1,bE hs h2]
  ·cases h
 ·split at h
  ·rename_i h1 h2 h3;simp at h;subst h;simp[resolve,invoke,builtin,Builtin.min_,Builtin.min2,bE hs h1,bE hs h2,bE hs h3]
  ·cases h
section
variable {T : Ty P} {n : Nat} {Q : Exit -> Act -> World -> Prop} {env : Env} {H : Hp} {ops : Array Oper} {i : Nat} {K : Act -> World -> Prop} {o : Oper}
theorem Qs (T:Ty P) {d:Nat} {v:Value} (ho:ops[i]? =some o) (hw:want ops env o=some true) (hd:o.dst=some d) (hn:d<n)
 (hv:C2 T env o.op=some v) (h:At W n K ((d,v)::env) H):At W n (wpOp P ops Q i K) env H:=
 Qw ho hw hd hn (λ_ w s _=>KL s hv w) h
end
end
section
variable {W : World}
variable {P : Program}
theorem xu: ∀(HL:List Hp) (j:Nat) (Hj:Hp),HL[j]? =some Hj->HL.flatten.Perm (Hj++(HL.eraseIdx j).flatten)
 |[],j,Hj,h=>by simp at h
 |A::r,0,Hj,h=>by simp at h;subst h;simp
 |A::r,j+1,Hj,h=>by
  simp at h;have ih:=xu r j Hj h;simp only[List.flatten_cons,List.eraseIdx_cons_succ];refine(List.Perm.append_left A ih).trans ?_;rw[<-List.append_assoc,<-List.append_assoc];exact List.Perm.append_right _ List.perm_append_comm
theorem vS: ∀(HL:List Hp) (j:Nat) (Hj H':Hp),HL[j]? =some Hj->(HL.set j H').flatten.Perm (H'++(HL.eraseIdx j).flatten)
 |[],j,Hj,H',h=>by simp at h
 |A::r,0,Hj,H',h=>by simp
 |A::r,j+1,Hj,H',h=>by
  simp at h;have ih:=vS r j Hj H' h;simp only[List.set_cons_succ,List.flatten_cons,List.eraseIdx_cons_succ];refine(List.Perm.append_left A ih).trans ?_;rw[<-List.append_assoc,<-List.append_assoc];exact List.Perm.append_right _ List.perm_append_comm
def pick:List Nat->List Hp->List Hp
 |[],_=>[]
 |j::js,HL=>match idx j HL with
  |some A=>A::pick js (HL.eraseIdx j)
  |none=>[]
theorem Vq {w:World}: ∀(js:List Nat) (HL:List Hp) (A:Hp),bl W w (A++HL.flatten)->bl W w (A++(pick js HL).flatten)
 |[],HL,A,h=>by simpa[pick] using h.left
 |j::js,HL,A,h=>by
  unfold pick
  cases hj:idx j HL with
  |none=>simpa using h.left
  |some B=>
   rw[idx_eq] at hj;have h1:bl W w (A++(B++(HL.eraseIdx j).flatten)):=h.perm (List.Perm.append_left A (xu HL j B hj));rw[<-List.append_assoc] at h1;have:=Vq js (HL.eraseIdx j) (A++B) h1;simpa[List.append_assoc] using this
theorem Hm {w:World} {HL:List Hp} (js:List Nat) (h:bl W w HL.flatten):bl W w (pick js HL).flatten:=by
 simpa using Vq js HL [] (by simpa using h)
theorem gY {HL:List Hp} {j:Nat} {Hj:Hp} (h:HL[j]? =some Hj) {c:Nat×Obj} (hc:c∈Hj):c∈HL.flatten:=
 List.mem_flatten.2 ⟨Hj,List.mem_of_getElem? h,hc⟩
abbrev aH (W:World) (n:Nat) (F:Act->World->Prop) (env:Env) (HL:List Hp):Prop:=At W n F env HL.flatten
variable {T : Ty P} {n : Nat} {Q : Exit -> Act -> World -> Prop} {env : Env} {HL : List Hp} {ops : Array Oper} {i : Nat} {K : Act -> World -> Prop} {o : Oper}
theorem LR {F:Act->World->Prop} (fC:Env) (js:List Nat) (jw:List Hp) (hs:sub fC env) (hh:pick js HL=jw) (h:aH W n F fC jw):aH W n F env HL:=
 YS hs (λw ow=>hh▸Hm js ow) h
theorem CY {w:World} (o:Obj) (ow:bl W w HL.flatten):bl W (w.alloc o) (HL++[[(w.heap.size,o)]]).flatten:=by
 have:=ow.alloc o;refine this.perm ?_;simp only[List.flatten_append,List.flatten_cons,List.flatten_nil,List.append_nil];exact(List.perm_append_comm (l₁:=[(w.heap.size,o)]) (l₂:=HL.flatten))
theorem OZ (w:World) (b off:Nat) (arr:Array Value) (E:TypeId) (fr:Nat×Nat) (hb:w.heap[b]? =some (.cells arr E fr)):
 ∀(m:Nat) (cs:List Value) (i:Nat) (acc:Array Value),cs.length=m->(∀j v,cs[j]? =some v->arr[off+i+j]? =some v)->
  (loadCellsFrom ⟨b,off,none⟩ i m acc).run P w= .ok (acc++cs.toArray) w:=by
 intro m
 induction m with
 |zero=>intro cs i acc hl _;have:cs=[]:=List.length_eq_zero_iff.1 hl;subst this;simp[loadCellsFrom]
 |succ m ih=>
  intro cs i acc hl hc
  cases cs with
  |nil=>simp at hl
  |cons c cs=>
   have h0:=hc 0 c rfl;have gw:w.cell? (Addr.add ⟨b,off,none⟩ i)=some c:=by
    unfold Addr.add;split
    ·rename_i hi;simp[World.cell?,hb];simpa[hi] using h0
    ·simp[World.cell?,hb];simpa using h0
   simp only[loadCellsFrom,Sem.run_bind,run_load,gw,Result.andThen_ok];rw[ih cs (i+1) (acc.push c) (by simpa using hl) (λj v hj=>by
    have:=hc (j+1) v (by simpa using hj)
    rw[show off+(i+1)+j=off+i+(j+1) by omega];exact this)]
   simp
def stored (arr:Array Value) (off:Nat):List Value->Array Value
 |[]=>arr
 |v::r=>stored (arr.setIfInBounds off v) (off+1) r
theorem HS: ∀(vs:List Value) (arr:Array Value) (off:Nat),off+vs.length<=arr.size->stored arr off vs=(gj arr.toList off vs).toArray
 |[],arr,off,h=>by simp[stored,gj]
 |v::r,arr,off,h=>by
  simp only[List.length_cons] at h;rw[stored,HS r _ _ (by simp;omega)]
  congr 1
  have:=Jh [v] arr.toList off 0 (by simp;omega)
  have h2:=Jh (v::r) arr.toList off 0 (by simp;omega)
  simp only[Array.toList_setIfInBounds];have h3:=Jh r (arr.toList.set off v) off 1 (by simp;omega)
  simp only[List.zipIdx_cons,List.foldl_cons,Nat.zero_add,Nat.add_zero] at h2;rw[h3] at h2;exact h2
theorem HG (T:Ty P) {H:Hp} (b:Nat) (E:TypeId): ∀(vs:List Value) (w:World) (arr:Array Value) (off i:Nat),bl W w ((b,.cells arr E (0,0))::H)->
 off+i+vs.length<=arr.size->(∀v∈vs,v.oneCell'=true)->
 ∃w',(storeCells ⟨b,off,none⟩ vs i).run P w= .ok () w'/\bl W w' ((b,.cells (stored arr (off+i) vs) E (0,0))::H)
 |[],w,arr,off,i,ow,_,_=>⟨w,by simp[storeCells],by simpa[stored] using ow⟩
 |v::r,w,arr,off,i,ow,hl,hv=>by
  simp only[List.length_cons] at hl;have MS:Addr.add ⟨b,off,none⟩ i=⟨b,off+i,none⟩:=by
   unfold Addr.add;split
   ·rename_i h;simp[h]
   ·rfl
  have gw:w.cell? ⟨b,off+i,none⟩=some (arr[off+i]'(by omega)):=ow.cell (c:=arr) (T:=E) (fr:=(0,0)) (List.mem_cons_self ..) (Array.getElem?_eq_getElem U)
  have hfr:w.frozen? ⟨b,off+i,none⟩=false:=ow.La (c:=arr) (T:=E) (List.mem_cons_self ..);have h1:(store ⟨b,off+i,none⟩ v).run P w= .ok () (w.setCell ⟨b,off+i,none⟩ v):=by
   rw[run_store P w _ v _ (hv v (by simp))]
   simp[gw,hfr]
  obtain⟨w',hr,cD⟩:=HG T b E r (w.setCell ⟨b,off+i,none⟩ v) (arr.setIfInBounds (off+i) v) off (i+1) (bl.setCell ow) (by simp;omega)
   (λx hx=>hv x (by simp[hx]))
  refine⟨w',?_,?_⟩
  ·simp[storeCells,MS,h1,hr]
  ·simpa[stored,Nat.add_assoc] using cD
theorem DO (T:Ty P) {b off j:Nat} {t:TypeId} {x y:Operand} {arr:Array Value} {E:TypeId} {v:Value} {sz by':Nat} {z:Value} {Hr:Hp} {cs:List Value}
 (ho:ops[i]? =some o) (hw:want ops env o=some true) (hd:o.dst=none) (aR:o.op= .store t x y) (hx:ev env x=some (.pointer (some ⟨b,off,none⟩)))
 (hy:ev env y=some v) (hi:T.inf t=some (sz,by',z)) (hj:HL[j]? =some ((b,.cells arr E (0,0))::Hr)) (hl:(bL v).length=sz) (hf: ∀c∈bL v,c.oneCell'=true)
 (hb:off+sz<=arr.size) (jR:gj arr.toList off (bL v)=cs)
 (h:aH W n K env (HL.set j ((b,.cells cs.toArray E (0,0))::Hr))):aH W n (wpOp P ops Q i K) env HL:=by
 refine I2 (β:=Unit) (G:=λ_=>(HL.set j ((b,.cells cs.toArray E (0,0))::Hr)).flatten) ho hw hd (λt' w s ow=>?_) (λ_=>h);have h1:=ow.perm (xu HL j _ hj);have hv:v.cells.size=sz:=by rw[<-hl,<-rW];simp
 obtain⟨w',hr,cD⟩:=HG T b E (bL v) w arr off 0 (by simpa using h1) U hf
 refine⟨(),w',.inl ?_,?_⟩
 ·unfold execOp;simp[aR,bE s hx,bE s hy,Instr.storeAt,Instr.sureAddr,storeVar,jZ hi,hv,rW,hr]
 ·rw[Nat.add_zero,HS _ _ _ U,jR] at cD;exact cD.perm (by simpa using(vS HL j _ ((b,.cells cs.toArray E (0,0))::Hr) hj).symm)
theorem YH (T:Ty P) {d:Nat} {t:TypeId} {sz by':Nat} {z:Value} {cs:List Value}
 (ho:ops[i]? =some o) (hw:want ops env o=some true) (hd:o.dst=some d) (hn:d<n) (aR:o.op= .alloc t) (hi:T.inf t=some (sz,by',z)) (hz:bL z=cs)
 (h: ∀b,aH W n K ((d,.pointer (some ⟨b,0,none⟩))::env) (HL++[[(b,Obj.cells cs.toArray t (0,0))]])):aH W n (wpOp P ops Q i K) env HL:=by
 refine yX (V:=λb=> .pointer (some ⟨b,0,none⟩)) (G:=λb=>(HL++[[(b,Obj.cells cs.toArray t (0,0))]]).flatten) ho hw hd hn (λt' w s ow=>?_) h;refine⟨w.heap.size,w.alloc (.cells cs.toArray t (0,0)),?_,CY _ ow⟩;have:z.cells=cs.toArray:=by apply Array.ext';rw[rW,hz]
 unfold execOp;simp[aR,Instr.alloc,Bb hi,newVar,newRow,this]
theorem YN (T:Ty P) {d:Nat} {t:TypeId} {x:Operand} {v:Value} {cs:List Value}
 (ho:ops[i]? =some o) (hw:want ops env o=some true) (hd:o.dst=some d) (hn:d<n) (aR:o.op= .box t x) (hx:ev env x=some v) (hz:bL v=cs)
 (h: ∀b,aH W n K ((d,.pointer (some ⟨b,0,none⟩))::env) (HL++[[(b,Obj.cells cs.toArray t (0,0))]])):aH W n (wpOp P ops Q i K) env HL:=by
 refine yX (V:=λb=> .pointer (some ⟨b,0,none⟩)) (G:=λb=>(HL++[[(b,Obj.cells cs.toArray t (0,0))]]).flatten) ho hw hd hn (λt' w s ow=>?_) h;refine⟨w.heap.size,w.alloc (.cells cs.toArray t (0,0)),?_,CY _ ow⟩;have:v.cells=cs.toArray:=by apply Array.ext';rw[rW,hz]
 unfold execOp;simp[aR,Instr.box,newVar,newRow,this,bE s hx]
end
section
variable {W : World}
variable {P : Program}
structure Fl (α:Type) where
 size:Nat
 enc:α->List Value
 len: ∀x,(enc x).length=size
 plain: ∀x,∀v∈enc x,v.oneCell'=true
 pos:0<size
def Fl.int (k:IntKind):Fl Int:=⟨1,λx=>[.int k x],λ_=>rfl,λ_ v h=>by simp at h;subst h;rfl,by decide⟩
def Fl.bool:Fl Bool:=⟨1,λx=>[.bool x],λ_=>rfl,λ_ v h=>by simp at h;subst h;rfl,by decide⟩
def rd {α:Type} [Inhabited α] (xs:List α) (i:Int):α:=xs.getD i.toNat default
theorem iP {α:Type} [Inhabited α] {xs:List α} {i:Int} (h:i.toNat<xs.length):rd xs i=xs[i.toNat]:=by
 simp[rd,h]
section
variable {α : Type} (k : Fl α)
def row (xs:List α):List Value:=(xs.map k.enc).flatten
theorem Ba:row k []=[]:=rfl
theorem HE (x:α) (xs:List α):row k (x::xs)=k.enc x++row k xs:=rfl
theorem qx (xs ys:List α):row k (xs++ys)=row k xs++row k ys:=by simp[row]
theorem lG (xs:List α):(row k xs).length=xs.length*k.size:=by
 induction xs with
 |nil=>simp[Ba]
 |cons x xs ih=>simp[HE,ih,k.len,Nat.succ_mul,Nat.add_comm]
theorem OU (xs:List α): ∀v∈row k xs,v.oneCell'=true:=by
 intro v hv;simp only[row,List.mem_flatten,List.mem_map] at hv;obtain⟨l,⟨x,_,rfl⟩,hv⟩:=hv;exact k.plain x v hv
theorem Da (xs:List α) (i j:Nat) (hi:i<xs.length) (hj:j<k.size):(row k xs)[i*k.size+j]? =(k.enc xs[i])[j]? :=by
 induction xs generalizing i with
 |nil=>simp at hi
 |cons x xs ih=>
  rw[HE]
  cases i with
  |zero=>simp;rw[List.getElem?_append_left (by rw[k.len];exact hj)]
  |succ i=>
   rw[List.getElem?_append_right (by rw[k.len,Nat.succ_mul];omega)]
   rw[k.len,show(i+1)*k.size+j-k.size=i*k.size+j by rw[Nat.succ_mul];omega]
   simpa using ih i (by simpa using hi)
def aP (xs:List α) (a:Option Addr) (H:Hp):Prop:=
 xs=[]∨ ∃b off arr E fr,a=some ⟨b,off,none⟩/\(b,Obj.cells arr E fr)∈H/\ ∀j v,(row k xs)[j]? =some v->arr[off+j]? =some v
def ak (E:TypeId) (xs:List α) (a:Option Addr) (cap:Nat) (H:Hp):Prop:=
 (a=none/\xs=[]/\cap=0/\H=[])∨
   ∃b pre post,a=some ⟨b,List.length pre,none⟩/\H=[(b,Obj.cells (pre++(row k xs++post)).toArray E (0,0))]/\xs.length<=cap/\(cap-xs.length)*k.size<=post.length
variable {k}
theorem aP.mono {xs:List α} {a:Option Addr} {H H':Hp} (h:aP k xs a H) (hs: ∀c∈H,c∈H'):aP k xs a H':=by
 rcases h with h |⟨b,off,arr,E,fr,h1,h2,h3⟩
 ·exact .inl h
 ·exact .inr ⟨b,off,arr,E,fr,h1,hs _ h2,h3⟩
theorem ak.r {E:TypeId} {xs:List α} {a:Option Addr} {cap:Nat} {H:Hp} (h:ak k E xs a cap H):aP k xs a H:=by
 rcases h with⟨_,h,_,_⟩ |⟨b,pre,post,h1,rfl,h2,h3⟩
 ·exact .inl h
 ·refine .inr ⟨b,pre.length,_,E,(0,0),h1,List.mem_cons_self ..,λj v hj=>?_⟩
  have hl:=(List.getElem?_eq_some_iff.1 hj).1;simp only[List.getElem?_toArray];rw[List.getElem?_append_right U,Nat.add_sub_cancel_left,List.getElem?_append_left hl];exact hj
theorem ak.nil {E:TypeId}:ak k E ([]:List α) none 0 []:= .inl ⟨rfl,rfl,rfl,rfl⟩
theorem ak.b_ {E:TypeId} {xs:List α} {a:Option Addr} {cap:Nat} {H:Hp} (h:ak k E xs a cap H):xs.length<=cap:=by
 rcases h with⟨_,rfl,_,_⟩ |⟨b,pre,post,h1,rfl,h2,h3⟩
 ·simp
 ·exact h2
theorem aP.addr {xs:List α} {a:Option Addr} {H:Hp} (h:aP k xs a H) {i:Int} (h0:0<=i) (h1:i<xs.length): ∃b off,a=some ⟨b,off,none⟩:=by
 rcases h with rfl |⟨b,off,arr,E,fr,h1,h2,h3⟩
 ·simp at h1;omega
 ·exact⟨b,off,h1⟩
theorem aP.elem {xs:List α} {a:Option Addr} {H:Hp} (h:aP k xs a H) [Inhabited α] {b off:Nat} (ha:a=some ⟨b,off,none⟩) {i:Int} (h0:0<=i) (h1:i<xs.length):
 ∃arr E fr,(b,Obj.cells arr E fr)∈H/\ ∀j v,(k.enc (rd xs i))[j]? =some v->arr[off+i.toNat*k.size+j]? =some v:=by
 rcases h with rfl |⟨b',CT,arr,E,fr,h2,h3,h4⟩
 ·simp at h1;omega
 ·rw[ha] at h2;simp at h2;obtain⟨rfl,rfl⟩:=h2;have hi:i.toNat<xs.length:=U;refine⟨arr,E,fr,h3,λj v hj=>?_⟩
  have lB:=(List.getElem?_eq_some_iff.1 hj).1;rw[k.len] at lB;rw[iP hi] at hj;have:=Da k xs i.toNat j hi lB;rw[Nat.add_assoc];exact h4 _ _ (this.trans hj)
end
section rules
variable {T : Ty P} {n : Nat} {Q : Exit -> Act -> World -> Prop} {env : Env} {HL : List Hp} {ops : Array Oper} {i : Nat} {K : Act -> World -> Prop} {o : Oper}
variable {α : Type} [Inhabited α] {k : Fl α}
theorem aP.at {xs:List α} {a:Option Addr} {H:Hp} (h:aP k xs a H) {b off:Nat} (ha:a=some ⟨b,off,none⟩) {j:Int} (h0:0<=j) (h1:j<xs.length) (f:Nat) {v:Value}
 (hv:idx f (k.enc (rd xs j))=some v): ∃arr E fr,(b,Obj.cells arr E fr)∈H/\arr[off+j.toNat*k.size+f]? =some v:=by
 obtain⟨arr,E,fr,hm,hc⟩:=h.elem ha h0 h1;exact⟨arr,E,fr,hm,hc f v (by rw[<-idx_eq];exact hv)⟩
theorem Zc (T:Ty P) {b off g f:Nat} {t E:TypeId} {x y:Operand} {v:Value} {sz by' cap:Nat} {z:Value} {Hj:Hp} {xs:List α} {a:Option Addr} {j:Int} (x':α)
 (ho:ops[i]? =some o) (hw:want ops env o=some true) (hd:o.dst=none) (aR:o.op= .store t x y) (hx:ev env x=some (.pointer (some ⟨b,off+j.toNat*k.size+f,none⟩)))
 (hy:ev env y=some v) (hi:T.inf t=some (sz,by',z)) (hj:HL[g]? =some Hj) (hs:ak k E xs a cap Hj) (ha:a=some ⟨b,off,none⟩) (h0:0<=j) (h1:j<xs.length)
 (hl:(bL v).length=sz) (hf:f+sz<=k.size) (he:k.enc x'=gj (k.enc (rd xs j)) f (bL v))
 (h: ∀H',ak k E (xs.set j.toNat x') a cap H'->aH W n K env (HL.set g H')):aH W n (wpOp P ops Q i K) env HL:=by
 rcases hs with⟨rfl,_,_,_⟩ |⟨b',pre,post,h2,rfl,h3,h4⟩
 ·cases ha
 ·rw[h2] at ha;simp at ha;obtain⟨rfl,rfl⟩:=ha;have aS:j.toNat<xs.length:=U;have Ct:xs=xs.take j.toNat++(rd xs j::xs.drop (j.toNat+1)):=by
   rw[iP aS];simp
  have wk:xs.set j.toNat x'=xs.take j.toNat++(x'::xs.drop (j.toNat+1)):=by
   rw[List.set_eq_take_append_cons_drop];simp[aS]
  have hlen:(row k (xs.take j.toNat)).length=j.toNat*k.size:=by rw[lG];congr 1;simp;omega
  have hk1:=k.len (rd xs j);have ad5: ∀c∈bL v,c.oneCell'=true:=by
   intro c hc;apply k.plain x' c;rw[he];unfold gj;simp[hc]
  have jR:gj (pre++(row k xs++post)) (pre.length+j.toNat*k.size+f) (bL v)=pre++(row k (xs.set j.toNat x')++post):=by
   rw[wk]
   conv=>lhs;rw[Ct]
   rw[qx,qx,HE,HE,he];unfold gj;rw[show pre.length+j.toNat*k.size+f=(pre++row k (xs.take j.toNat)).length+f by simp[hlen]]
   rw[show pre++((row k (xs.take j.toNat)++(k.enc (rd xs j)++row k (xs.drop (j.toNat+1))))++post)=(pre++row k (xs.take j.toNat))++(k.enc (rd xs j)++(row k (xs.drop (j.toNat+1))++post)) by simp]
   rw[Nat.add_assoc,List.take_length_add_append,List.drop_length_add_append];rw[List.take_append_of_le_length U,List.drop_append_of_le_length U];simp
  refine DO T (cs:=pre++(row k (xs.set j.toNat x')++post)) ho hw hd aR hx hy hi hj hl ad5 ?_ (by simpa using jR) (h _ (.inr ⟨b',pre,post,h2,rfl,by simpa using h3,by simpa using h4⟩))
  ·have:(row k xs).length=xs.length*k.size:=lG k xs;have h5:(j.toNat+1)*k.size<=xs.length*k.size:=Nat.mul_le_mul_right _ aS;rw[Nat.succ_mul] at h5;simp[this];omega
end rules
end
section
variable {W : World}
variable {P : Program}
theorem KO {α:Type} {k:Fl α} {ys:List α} {a:Option Addr} {H:Hp} {w:World} (hr:aP k ys a H) (ow:bl W w H) (m c:Nat):
 (Builtin.firstCells k.size ys.length (.slice a m c)).run P w= .ok (row k ys).toArray w:=by
 rcases hr with rfl |⟨b,off,arr,E,fr,rfl,hm,hc⟩
 ·cases a with
  |none=>simp[Builtin.firstCells,Ba]
  |some ad=>simp[Builtin.firstCells,Ba,loadCells,loadCellsFrom]
 ·simp only[Builtin.firstCells,loadCells];have:=OZ (P:=P) w b off arr E fr (ow.lookup hm) (ys.length*k.size) (row k ys) 0 #[] (lG k ys) (by simpa using hc)
  rw[this];simp
theorem sE {w':World} {HL:List Hp} {g:Nat} {Hj H':Hp} (hj:HL[g]? =some Hj) (h:bl W w' (H'++(HL.eraseIdx g).flatten)):bl W w' (HL.set g H').flatten:=
 h.perm (vS HL g Hj H' hj).symm
theorem vd {w:World} {HL:List Hp} {g:Nat} {Hj:Hp} (hj:HL[g]? =some Hj) (h:bl W w HL.flatten):bl W w (Hj++(HL.eraseIdx g).flatten):=
 h.perm (xu HL g Hj hj)
section rules
variable {T : Ty P} {n : Nat} {Q : Exit -> Act -> World -> Prop} {env : Env} {HL : List Hp} {ops : Array Oper} {i : Nat} {K : Act -> World -> Prop} {o : Oper}
variable {α : Type} {k : Fl α}
theorem aiL {z:Value} {sz m:Nat} (hz:(bL z).length=sz):(Builtin.zeroCells z.cells m).toList.length=m*sz:=by
 have:z.cells.size=sz:=by rw[<-hz,<-rW];simp
 simp[Builtin.zeroCells,this]
theorem Ym (T:Ty P) {t t' ty E E':TypeId} {xs ys:List α} {a a2:Option Addr} {g cap cap2 sz by':Nat} {z:Value} {Hj:Hp} {w:World}
 (hu:T.bW t=some (.slice E)) (jD:T.bW t'=some (.slice E')) (hi:T.inf E=some (sz,by',z)) (hk:k.size=sz) (hz:(bL z).length=sz)
 (hj:HL[g]? =some Hj) (so:ak k E xs a cap Hj) (sr:aP k ys a2 HL.flatten)
 (hb:(xs.length+ys.length)*by'<=140737488355328) (uS:xs.length+ys.length<=4611686018427387904) (ow:bl W w HL.flatten):
 ∃a' qU H' w',(Builtin.append_ #[t,t'] ty #[.slice a xs.length cap,.slice a2 ys.length cap2]).run P w= .ok (.slice a' (xs.length+ys.length) qU) w'/\
  ak k E (xs++ys) a' qU H'/\bl W w' (HL.set g H').flatten:=by
 obtain⟨inf,mM,jS,jQ,A1⟩:=T.mM E sz by' z hi
 have Ee: ∀w',bl W w' HL.flatten->(Builtin.firstCells sz ys.length (.slice a2 ys.length cap2)).run P w'= .ok (row k ys).toArray w':=λw' o=>by
  rw[<-hk];exact KO (P:=P) sr o ys.length cap2
 have Nx: ∀w',bl W w' HL.flatten->(Builtin.firstCells sz xs.length (.slice a xs.length cap)).run P w'= .ok (row k xs).toArray w':=λw' o=>by
  rw[<-hk];exact KO (P:=P) (so.r.mono λc hc=>gY hj hc) o xs.length cap
 by_cases Gm:xs.length+ys.length<=cap
 ·rcases so with⟨rfl,rfl,rfl,rfl⟩ |⟨b,pre,post,rfl,rfl,h3,h4⟩
  ·have hy:ys=[]:=by
    have:ys.length=0:=by simpa using Gm
    exact List.length_eq_zero_iff.1 this
   subst hy;refine⟨none,0,[],w,?_,?_,sE hj (by simpa using vd hj ow)⟩
   ·have:=Ee w ow;simp[Builtin.append_,cV hu,cV jD,jZ hi,Builtin.lenOf];simp at this;simp[this]
   ·exact .inl ⟨rfl,rfl,rfl,rfl⟩
  ·have GB:=lG k ys;have xN:=lG k xs;have q_:(cap-xs.length)*k.size=(cap-(xs.length+ys.length))*k.size+ys.length*k.size:=by
    rw[<-Nat.add_mul];congr 1;omega
   have hlen:(row k ys).length<=post.length:=by rw[GB];omega
   have MS:Addr.add ⟨b,pre.length,none⟩ (xs.length*sz)=⟨b,pre.length+xs.length*sz,none⟩:=by
    unfold Addr.add;split
    ·rename_i h;simp[h]
    ·rfl
   obtain⟨w',hr,cD⟩:=HG T b E (row k ys) w (pre++(row k xs++post)).toArray (pre.length+xs.length*sz) 0 (by simpa using vd hj ow)
    (by simp[xN,hk];omega) (OU k ys)
   refine⟨some ⟨b,pre.length,none⟩,cap,[(b,Obj.cells (pre++(row k (xs++ys)++post.drop (row k ys).length)).toArray E (0,0))],w',?_,?_,?_⟩
   ·simp[Builtin.append_,cV hu,cV jD,jZ hi,Builtin.lenOf,Gm,Ee w ow,MS,hr]
   ·refine .inr ⟨b,pre,post.drop (row k ys).length,rfl,rfl,by simpa using Gm,?_⟩
    simp only[List.length_append,List.length_drop,GB];omega
   ·refine sE hj ?_;rw[Nat.add_zero,HS _ _ _ (by simp[xN,hk];omega)] at cD
    have e:gj (pre++(row k xs++post)) (pre.length+xs.length*sz) (row k ys)=pre++(row k (xs++ys)++post.drop (row k ys).length):=by
     unfold gj;rw[Nat.add_assoc,List.take_length_add_append,List.drop_length_add_append];rw[show xs.length*sz=(row k xs).length by rw[xN,hk]]
     rw[List.take_left',List.drop_length_add_append,qx]
     ·simp
     ·rfl
    simpa[e] using cD
 ·have Nz:cap<xs.length+ys.length:=U;have ai9:=growslice_fits Nz hb;have adS: ¬(281474976710656<Builtin.nextslicecap (xs.length+ys.length) cap*by'):=U
  have h63: ¬(9223372036854775807<((xs.length:Int)+(ys.length:Int))):=U;have adW:=Ee w.drew ow.drew;have adT:=Nx w.drew ow.drew;have J1:=Question.cut;refine⟨some ⟨w.heap.size,0,none⟩,grownCap w (xs.length+ys.length) cap E,[(w.heap.size,Obj.cells (row k (xs++ys)++(Builtin.zeroCells z.cells (grownCap w (xs.length+ys.length) cap E-(xs.length+ys.length))).toList).toArray E (0,0))],
   w.drew.alloc (.cells (row k (xs++ys)++(Builtin.zeroCells z.cells (grownCap w (xs.length+ys.length) cap E-(xs.length+ys.length))).toList).toArray E),?_,?_,?_⟩
  ·simp[Builtin.append_,cV hu,cV jD,jZ hi,Builtin.lenOf,Gm,typeInfo,zeroValue,mM,A1,jQ,adS,h63,Question.forced];rw[adT,Result.andThen_ok,adW,Result.andThen_ok];have e: ∀zc:Array Value,(row k xs).toArray++((row k ys).toArray++zc)=(row k (xs++ys)++zc.toList).toArray:=by
    intro zc;apply Array.ext';simp[qx]
   rw[e]
   rfl
  ·refine .inr ⟨w.heap.size,[],_,rfl,rfl,?_,?_⟩
   ·simp[grownCap,Question.cut]
   ·rw[aiL hz];simp[hk]
  ·refine sE hj ?_;have:=(vd hj ow).right;have h2:=bl.alloc (.cells (row k (xs++ys)++(Builtin.zeroCells z.cells (grownCap w (xs.length+ys.length) cap E-(xs.length+ys.length))).toList).toArray E) this.drew;exact h2
theorem HF {t:Array Value} {b:Builtin} {args:Array Operand} {types:Array TypeId} (w:World) (aR:o.op= .call ⟨.builtin b,args,types⟩):
 ∃cs,(execOp (Act.eval ⟨t,[]⟩) o).run P w=(builtin b types o.type cs (args.map (Act.eval ⟨t,[]⟩))).run P w:=by
 unfold execOp;rw[aR];exact⟨_,rfl⟩
theorem YJ (T:Ty P) {d g:Nat} {s x:Operand} {t t' E E':TypeId} {xs ys:List α} {a a2:Option Addr} {cap cap2 sz by':Nat} {z:Value} {Hj:Hp}
 (ho:ops[i]? =some o) (hw:want ops env o=some true) (hd:o.dst=some d) (hn:d<n) (aR:o.op= .call ⟨.builtin .append,#[s,x],#[t,t']⟩)
 (hs:ev env s=some (.slice a xs.length cap)) (hx:ev env x=some (.slice a2 ys.length cap2)) (hu:T.bW t=some (.slice E)) (jD:T.bW t'=some (.slice E'))
 (hi:T.inf E=some (sz,by',z)) (hk:k.size=sz) (hz:(bL z).length=sz) (hj:HL[g]? =some Hj) (so:ak k E xs a cap Hj) (sr:aP k ys a2 HL.flatten)
 (hb:(xs.length+ys.length)*by'<=140737488355328) (uS:xs.length+ys.length<=4611686018427387904)
 (h: ∀a' qU H',ak k E (xs++ys) a' qU H'->aH W n K ((d,.slice a' (xs++ys).length qU)::env) (HL.set g H')):aH W n (wpOp P ops Q i K) env HL:=by
 refine yX (β:={p:Option Addr×Nat×Hp // ak k E (xs++ys) p.1 p.2.1 p.2.2}) (V:=λp=> .slice p.1.1 (xs++ys).length p.1.2.1) (G:=λp=>(HL.set g p.1.2.2).flatten)
  ho hw hd hn (λtt w sl ow=>?_) (λp=>h _ _ _ p.2)
 obtain⟨a',qU,H',w',hr,rf,cD⟩:=Ym (P:=P) T (ty:=o.type) hu jD hi hk hz hj so sr hb uS ow;refine⟨⟨(a',qU,H'),rf⟩,w',?_,cD⟩;obtain⟨cs,hb⟩:=HF (P:=P) (t:=tt) w aR;rw[hb];simp only[List.map_toArray,List.map_cons,List.map_nil,bE sl hs,bE sl hx,builtin,Sem.run_bind];refine Eq.trans (congrArg (λr=>Result.andThen r _) hr) ?_;simp only[Result.andThen_ok,Sem.run_pure,List.length_append]
theorem YX (T:Ty P) {d:Nat} {t E:TypeId} {x y:Operand} {m:Int} {kk tG:IntKind} {sz by':Nat} {z:Value} (x0:α)
 (ho:ops[i]? =some o) (hw:want ops env o=some true) (hd:o.dst=some d) (hn:d<n) (aR:o.op= .makeSlice t x y) (hx:ev env x=some (.int kk m)) (hy:ev env y=some (.int tG m))
 (hu:T.bW t=some (.slice E)) (hi:T.inf E=some (sz,by',z)) (hk:k.size=sz) (hz:bL z=k.enc x0) (h0:0<=m) (hm:m<=4611686018427387904) (hb:by'*m<=281474976710656)
 (h: ∀a cap H',ak k E (List.replicate m.toNat x0) a cap H'->aH W n K ((d,.slice a (List.replicate m.toNat x0).length cap)::env) (HL++[H'])):
 aH W n (wpOp P ops Q i K) env HL:=by
 refine yX (β:={p:Option Addr×Nat×Hp // ak k E (List.replicate m.toNat x0) p.1 p.2.1 p.2.2}) (V:=λp=> .slice p.1.1 (List.replicate m.toNat x0).length p.1.2.1) (G:=λp=>(HL++[p.1.2.2]).flatten)
  ho hw hd hn (λt' w s ow=>?_) (λp=>h _ _ _ p.2)
 obtain⟨inf,mM,jS,jQ,A1⟩:=T.mM E sz by' z hi
 have wm:z.cells.toList=k.enc x0:=by rw[rW,hz]
 have xM: ∀c:Nat,(Array.range (c*sz)).map (λi=>z.cells[i%z.cells.size]!)=(row k (List.replicate c x0)).toArray:=by
  intro c;have jS:z.cells.size=sz:=by have:=k.len x0;rw[<-wm] at this;simpa[hk] using this
  have hp:0<sz:=hk▸k.pos;apply Array.ext
  ·simp[lG,hk]
  ·intro j h1 h2;simp at h1;simp only[Array.getElem_map,Array.getElem_range,List.getElem_toArray];have hq:j/sz<c:=by rw[Nat.div_lt_iff_lt_mul hp];exact h1
   have hr:j%sz<sz:=Nat.mod_lt _ hp;have hg:=Da k (List.replicate c x0) (j/sz) (j%sz) (by simpa using hq) (by rw[hk];exact hr)
   rw[hk,Nat.div_add_mod' j sz] at hg;simp only[List.getElem_replicate] at hg;rw[jS];have h3:z.cells[j%sz]? =(k.enc x0)[j%sz]? :=by rw[<-wm];simp
   rw[<-h3] at hg;rw[List.getElem?_eq_getElem (by simpa using h2)] at hg
   rw[getElem!_pos z.cells (j%sz) (by rw[jS];exact hr)]
   rw[Array.getElem?_eq_getElem (by rw[jS];exact hr)] at hg
   exact(Option.some.inj hg).symm
 have GG:IntKind.i64.wrap m=m:=by unfold IntKind.wrap IntKind.signed IntKind.bits;simp;omega
 refine⟨⟨(some ⟨w.heap.size,0,none⟩,m.toNat,[(w.heap.size,.cells (row k (List.replicate m.toNat x0)).toArray E (0,0))]),.inr ⟨w.heap.size,[],[],rfl,by simp,by simp,by simp⟩⟩,
  w.alloc (.cells (row k (List.replicate m.toNat x0)).toArray E),?_,CY _ ow⟩
 unfold execOp;have h4: ¬m<0:=U;have h5: ¬(281474976710656<(by':Int)*m):=U
 by_cases hc:m.toNat*sz=0
 ·have hz0:m.toNat=0:=by
   rcases Nat.mul_eq_zero.1 hc with h |h
   ·exact h
   ·have:=k.pos;omega
  have:m=0:=U;subst this;simp[aR,bE s hx,bE s hy,Instr.makeSlice,cV hu,asInt,asIntOf,typeInfo,mM,jQ,GG,jZ hi,newRow,Ba];have e:(Array.range 0).map (λ_=>(default:Value))= #[]:=by apply Array.ext';simp
  rw[e]
 ·simp[aR,bE s hx,bE s hy,Instr.makeSlice,cV hu,asInt,asIntOf,typeInfo,mM,jQ,GG,h4,h5,jZ hi,hc,Bb hi,newRow,xM]
end rules
end
section
variable {W : World}
variable {P : Program}
def yM (P:Program) (f:FuncId) (args:Array Value) (H:Hp) {β:Type} (V:β->Value) (G:β->Hp):Prop:=
 ∀W w,bl W w H->Calls P f args w λe w'=> ∃b,e= .returned (V b)/\bl W w' (G b)
theorem yM.imp {f:FuncId} {args:Array Value} {H H':Hp} {β γ:Type} {V:β->Value} {G:β->Hp} {V':γ->Value} {G':γ->Hp} (h:yM P f args H V G)
 (hh: ∀W w,bl W w H'->bl W w H) (hg: ∀b,∃c,V b=V' c/\ ∀W w,bl W w (G b)->bl W w (G' c)):yM P f args H' V' G':=
 λW w ow=>(h W w (hh W w ow)).mono λ_ w' ⟨b,he,o⟩=>let⟨c,hc,hw⟩:=hg b;⟨c,he.trans (by rw[hc]),hw W w' o⟩
structure Has (P:Program) (f:FuncId):Prop where
 has : ∃ fn, P.funcs[f]? = some fn ∧ (fn.name == "runtime.NumGoroutine") = false ∧ fn.body.isNone = false
theorem Has.run {f:FuncId} (h:Has P f) (args:Array Value) (w:World):(callFunc f args).run P w= .ok (.enter f args) w:=by
 obtain⟨fn,h1,h2,h3⟩:=h.has;simp only[callFunc,Sem.run_bind,run_program,Result.andThen_ok,h1];simp[h2,h3]
def qB:List Nat->List Hp->List Hp×List Hp
 |[],HL=>([],HL)
 |j::js,HL=>((idx j HL).getD []::(qB js (HL.eraseIdx j)).1,(qB js (HL.eraseIdx j)).2)
theorem HK: ∀(js:List Nat) (HL:List Hp),HL.flatten.Perm ((qB js HL).1.flatten++(qB js HL).2.flatten)
 |[],HL=>by simp[qB]
 |j::js,HL=>by
  unfold qB
  cases hj:idx j HL with
  |none=>
   rw[idx_eq] at hj;have h2:HL.eraseIdx j=HL:=List.eraseIdx_of_length_le (by simpa using hj)
   rw[h2];simpa using HK js HL
  |some A=>
   rw[idx_eq] at hj;refine(xu HL j A hj).trans ?_;simp only[Option.getD_some,List.flatten_cons,List.append_assoc];exact List.Perm.append_left A (HK js (HL.eraseIdx j))
theorem WC {js:List Nat} {HL As R:List Hp} (h:qB js HL=(As,R)):HL.flatten.Perm (As.flatten++R.flatten):=by
 have:=HK js HL;rw[h] at this;exact this
section rules
variable {T : Ty P} {n : Nat} {Q : Exit -> Act -> World -> Prop} {env : Env} {HL : List Hp} {ops : Array Oper} {i : Nat} {K : Act -> World -> Prop} {o : Oper}
theorem Wp {t:Array Value} {c:Operand} {args:Array Operand} {types:Array TypeId} {f:FuncId} {first captured:Array Value} {vs as:List Value} (w:World) (s:iy n t env)
 (aR:o.op= .call ⟨.value c,args,types⟩) (hc:ev env c=some (.func (.func f) first captured)) (ha:args.toList.mapM (ev env)=some vs) (hf:Has P f)
 (has:first.toList++(vs++captured.toList)=as):(execOp (Act.eval ⟨t,[]⟩) o).run P w= .ok (.enter f as.toArray) w:=by
 have h1:args.map (Act.eval ⟨t,[]⟩)=vs.toArray:=by
  rw[<-Mu s ha];apply Array.ext';simp
 have h2:first++vs.toArray++captured=as.toArray:=by
  rw[<-has];apply Array.ext';simp
 unfold execOp;simp only[aR,resolve,bE s hc,h1,Deferred.ofValue,Sem.run_bind,Sem.run_pure,Result.andThen_ok,invoke];rw[h2];exact hf.run _ w
theorem YQ {d:Nat} {c:Operand} {args:Array Operand} {types:Array TypeId} {f:FuncId} {first captured:Array Value} {vs as:List Value} {β:Type} {V:β->Value} {B:β->List Hp} {As R:List Hp}
 (js:List Nat) (ho:ops[i]? =some o) (hw:want ops env o=some true) (hd:o.dst=some d) (hn:d<n)
 (aR:o.op= .call ⟨.value c,args,types⟩) (hc:ev env c=some (.func (.func f) first captured)) (ha:args.toList.mapM (ev env)=some vs) (hf:Has P f)
 (has:first.toList++(vs++captured.toList)=as) (hs:qB js HL=(As,R))
 (nS:yM P f as.toArray (As.flatten++R.flatten) V (λb=>(B b).flatten++R.flatten))
 (h: ∀b,aH W n K ((d,V b)::env) (R++B b)):aH W n (wpOp P ops Q i K) env HL:=by
 refine YP (G:=λb=>(R++B b).flatten) ho hw hd hn (λt w s _=>Wp w s aR hc ha hf has) (λw ow=>?_) h;refine(nS W w (ow.perm (WC hs))).mono λe w' ⟨b,he,o'⟩=>⟨b,he,?_⟩
 rw[List.flatten_append];exact o'.perm List.perm_append_comm
variable {H : Hp}
def iE (W:World) (P:Program) (n:Nat) (ops:Array Oper) (H:Hp) (l:List Oper) (F:Act->Prop) (env:Env):Prop:=
 ∀t,iy n t env->wpQuiet P ops (λw=>bl W w H) F l ⟨t,[]⟩
theorem dq {id:Nat} (hm:P.follows .mixedOrders=true) (hB:Region.lexB .any ops=true) (h:iE W P n ops H ops.toList (λa=> ∀w,bl W w H->Q .normal a w) env):
 At W n ((Code.region id ops true).wp P Q) env H:=
 λt w s ow=>wp_region_quiet (C:=λw=>bl W w H) hm hB ow.drew (h t s)
theorem cM {F:Act->World->Prop} (h:At W n F env H):iE W P n ops H [] (λa=> ∀w,bl W w H->F a w) env:=
 λt s w ow=>h t w s ow
theorem Zr {d:Nat} {l:List Oper} {F:Act->Prop} (hw:want ops env o=some false) (hd:o.dst=some d) (hn:d<n)
 (h:iE W P n ops H l F ((d,undef)::env)):iE W P n ops H (o::l) F env:=by
 intro t s;simp only[wpQuiet];have h1:Region.wanted o (yielded ops t)=false:=BB s hw;rw[if_neg (by simp[h1])]
 have:=h _ (s.put (v:=undef) hn);simpa[Act.put,hd] using this
theorem QC {d:Nat} {v:Value} {l:List Oper} {F:Act->Prop} (hw:want ops env o=some true) (hd:o.dst=some d) (hn:d<n)
 (hv: ∀t w,iy n t env->bl W w H->(execOp (Act.eval ⟨t,[]⟩) o).run P w= .ok (.value v) w)
 (h:iE W P n ops H l F ((d,v)::env)):iE W P n ops H (o::l) F env:=by
 intro t s;simp only[wpQuiet];have h1:Region.wanted o (yielded ops t)=true:=BB s hw;rw[if_pos h1];refine⟨v,λw ow=>?_,?_⟩
 ·unfold Oper.quietAt;rw[hv t w s ow];exact⟨rfl,rfl⟩
 ·have:=h _ (s.put (v:=v) hn);simpa[Act.put,hd] using this
theorem Zs (T:Ty P) {d:Nat} {v:Value} {l:List Oper} {F:Act->Prop} (hw:want ops env o=some true) (hd:o.dst=some d) (hn:d<n)
 (hv:C2 T env o.op=some v) (h:iE W P n ops H l F ((d,v)::env)):iE W P n ops H (o::l) F env:=
 QC hw hd hn (λ_ w s _=>KL s hv w) h
theorem Zp {d:Nat} {c:Operand} {args:Array Operand} {types:Array TypeId} {f:FuncId} {first captured:Array Value} {vs as:List Value} {v:Value} {l:List Oper} {F:Act->Prop}
 (hw:want ops env o=some true) (hd:o.dst=some d) (hn:d<n)
 (aR:o.op= .call ⟨.value c,args,types⟩) (hc:ev env c=some (.func (.func f) first captured)) (ha:args.toList.mapM (ev env)=some vs) (hf:Has P f)
 (has:first.toList++(vs++captured.toList)=as)
 (nS:yM P f as.toArray H (λ_:Unit=>v) (λ_=>H))
 (h:iE W P n ops H l F ((d,v)::env)):iE W P n ops H (o::l) F env:=by
 intro t s;simp only[wpQuiet];have h1:Region.wanted o (yielded ops t)=true:=BB s hw;rw[if_pos h1];refine⟨v,λw ow=>?_,?_⟩
 ·unfold Oper.quietAt;rw[Wp w s aR hc ha hf has];exact⟨rfl,(nS W w ow).mono λe w' ⟨_,he,o'⟩=>⟨he,o'⟩⟩
 ·have:=h _ (s.put (v:=v) hn);simpa[Act.put,hd] using this
end rules
end
section
variable {W : World}
variable {P : Program}
def GR {α:Type} (t:Nat):List (Nat×α)->Option α
 |[]=>none
 |e::r=>bif Nat.beq t e.1 then some e.2 else GR t r
def E_ {α:Type} (p:Nat->α->Prop):List (Nat×α)->Prop
 |[]=>True
 |e::r=>p e.1 e.2/\E_ p r
theorem Of {α:Type} {p:Nat->α->Prop}: ∀{l:List (Nat×α)} {t:Nat} {d:α},E_ p l->GR t l=some d->p t d
 |[],_,_,_,h=>by cases h
 |e::r,t,d,ha,h=>by
  unfold GR at h
  cases hb:Nat.beq t e.1 with
  |true=>rw[hb] at h;simp at h;rw[Nat.eq_of_beq_eq_true hb,<-h];exact ha.1
  |false=>rw[hb] at h;exact Of ha.2 h
def Ty.of (us:List (Nat×TypeDesc)) (is:List (Nat×(Nat×Nat×Value))) (hu:E_ (λt d=>P.underlying t=some d) us)
 (hi:E_ (λt d=>((P.info? t).map λi=>(i.size,i.bytes,i.zero))=some (d.1,d.2.1,some d.2.2)) is):Ty P where
 bW t:=GR t us
 inf t:=GR t is
 AX t d h:=Of hu h
 mM t s b z h:=by
  have:=Of hi h
  cases mM:P.info? t with
  |none=>simp[mM] at this
  |some i=>simp[mM] at this;exact⟨i,rfl,this⟩
end
section
variable {W : World}
variable {P : Program}
def PF (Q:Exit->Act->World->Prop):Prop:= ∀c a d v w,Q (.panic c) (Act.put a d v) w->Q (.panic c) a w
theorem bQ {fn:Func} {R:Ending->World->Prop}:PF (bodyPost P fn R):=λc a d v w h=>by
 cases d<;>exact h
theorem Vr {K:Act->World->Prop} {Q:Exit->Act->World->Prop} (h:PF Q):PF (Exit.then K Q):=λc a d v w=>h c a d v w
theorem af1 {id:Nat} {Q:Exit->Act->World->Prop} (h:PF Q):PF (Exit.inBlock id Q):=λc a d v w=>h c a d v w
variable {T : Ty P} {n : Nat} {Q : Exit -> Act -> World -> Prop} {env : Env} {H H0 : Hp} {ops : Array Oper} {i : Nat} {o : Oper} {fuel : Nat} {listed : Array Bool}
end
section
variable {W : World}
variable {P : Program}
section rules
variable {T : Ty P} {n : Nat} {Q : Exit -> Act -> World -> Prop} {env : Env} {H : Hp} {ops : Array Oper} {i : Nat} {rest : List Nat}
def z7 (T:Ty P) (n:Nat) (ops:Array Oper) (env:Env) (i:Nat):Option (Nat×Value):=
 match ops[i]? with
 |none=>none
 |some o=>match want ops env o,o.dst with
  |some true,some d=>bif Nat.blt d n then(match C2 T env o.op with |some v=>some (d,v) |none=>none) else none
  |some false,some d=>bif Nat.blt d n then some (d,undef) else none
  |_,_=>none
theorem Y9 (T:Ty P) {e:Nat×Value} (hs:z7 T n ops env i=some e) (h:At W n (wpOps P ops Q rest) (e::env) H):At W n (wpOps P ops Q (i::rest)) env H:=by
 refine aV ?_;unfold z7 at hs;split at hs
 ·cases hs
 ·rename_i o ho;split at hs
  ·rename_i d hw hd
   cases hb:Nat.blt d n with
   |false=>simp[hb] at hs
   |true=>
    simp only[hb,cond_true] at hs;split at hs
    ·rename_i v hv;simp at hs;subst hs;exact Qs T ho hw hd (by simpa using hb) hv h
    ·cases hs
  ·rename_i d hw hd
   cases hb:Nat.blt d n with
   |false=>simp[hb] at hs
   |true=>
    simp[hb] at hs;subst hs;exact LP ho hw hd (by simpa using hb) h
  ·cases hs
def rn (T:Ty P) (n:Nat) (ops:Array Oper):List Nat->Env->Option Env
 |[],env=>some env
 |i::r,env=>match z7 T n ops env i with
  |some e=>rn T n ops r (e::env)
  |none=>none
theorem Qk {l1 l2:List Nat} {K:Act->World->Prop} (hK: ∀a w,K a w->wpOps P ops Q l2 a w): ∀(env:Env),At W n (l1.foldr (λi K=>wpOp P ops Q i K) K) env H->At W n (wpOps P ops Q (l1++l2)) env H:=by
 intro env h t w s ow;have:=h t w s ow;clear h s ow;revert this;generalize(⟨t,[]⟩:Act)=a
 induction l1 generalizing a w with
 |nil=>exact λh=>hK _ _ h
 |cons i r ih=>
  intro h
  show wpOps P ops Q (i::(r++l2)) a w
  rw[wpOps_cons];exact wpOp_mono (λa w h=>ih w a h) h
theorem ahW (T:Ty P) {e:Nat×Value} (hs:z7 T n ops env i=some e) {K:Act->World->Prop} (h:At W n K (e::env) H):At W n (wpOp P ops Q i K) env H:=by
 unfold z7 at hs;split at hs
 ·cases hs
 ·rename_i o ho;split at hs
  ·rename_i d hw hd
   cases hb:Nat.blt d n with
   |false=>simp[hb] at hs
   |true=>
    simp only[hb,cond_true] at hs;split at hs
    ·rename_i v hv;simp at hs;subst hs;exact Qs T ho hw hd (by simpa using hb) hv h
    ·cases hs
  ·rename_i d hw hd
   cases hb:Nat.blt d n with
   |false=>simp[hb] at hs
   |true=>
    simp[hb] at hs;subst hs;exact LP ho hw hd (by simpa using hb) h
  ·cases hs
theorem Wr (T:Ty P) (l:List Nat) {fC:Env} {K:Act->World->Prop} (hr:rn T n ops l env=some fC) (h:At W n K fC H):At W n (l.foldr (λi K=>wpOp P ops Q i K) K) env H:=by
 induction l generalizing env with
 |nil=>simp[rn] at hr;subst hr;exact h
 |cons i r ih=>
  simp only[rn] at hr;split at hr
  ·rename_i e he;exact ahW T he (ih hr)
  ·cases hr
theorem LL {s:Nat} {c:Bool} {F:Act->World->Prop} (hs:lk s env=some (.bool c)) (ht:c=true->At W n F ((s,.bool true)::env) H) (hf:c=false->At W n F ((s,.bool false)::env) H):At W n F env H:=by
 intro t w sl ow;have key: ∀b,c=b->iy n t ((s,.bool b)::env):=λb hb=>⟨sl.1,λk v hk=>by
  simp only[lk] at hk
  by_cases h:k=s
  ·subst h;have:Nat.beq k k=true:=by simp
   rw[this] at hk;simp at hk;rw[<-hk,<-hb];exact sl.2 k _ hs
  ·rw[xk h] at hk;exact sl.2 k v hk⟩
 cases hc:c
 ·exact hf hc t w (key _ hc) ow
 ·exact ht hc t w (key _ hc) ow
theorem YW {l1 l2:List Nat} {s:Nat} {c:Bool} (fC:Env) (hs:lk s env=some (.bool c))
 (ht:c=true->At W n (l1.foldr (λi K=>wpOp P ops Q i K) (λa w=> ∃t,a=⟨t,[]⟩/\iy n t fC/\bl W w H)) ((s,.bool true)::env) H)
 (hf:c=false->At W n (l1.foldr (λi K=>wpOp P ops Q i K) (λa w=> ∃t,a=⟨t,[]⟩/\iy n t fC/\bl W w H)) ((s,.bool false)::env) H)
 (h:At W n (wpOps P ops Q l2) fC H):At W n (wpOps P ops Q (l1++l2)) env H:=
 LL hs
  (λhc=>Qk (λ_ _ ⟨t,e,sl,ow⟩=>e▸h t _ sl ow) _ (ht hc))
  (λhc=>Qk (λ_ _ ⟨t,e,sl,ow⟩=>e▸h t _ sl ow) _ (hf hc))
theorem Qp {fC:Env} (hs:sub fC env):At W n (λa w=> ∃t,a=⟨t,[]⟩/\iy n t fC/\bl W w H) env H:=
 λt _ sl ow=>⟨t,rfl,sl.sub hs,ow⟩
theorem Qn (T:Ty P) (l1:List Nat) {l2:List Nat} {s:Nat} {c:Bool} {e1 e2:Env} (fC:Env) (hs:lk s env=some (.bool c))
 (h1:rn T n ops l1 ((s,.bool true)::env)=some e1) (h2:rn T n ops l1 ((s,.bool false)::env)=some e2) (k1:c=true->sub fC e1) (k2:c=false->sub fC e2)
 (h:At W n (wpOps P ops Q l2) fC H):At W n (wpOps P ops Q (l1++l2)) env H:=
 YW fC hs (λhc=>Wr T l1 h1 (Qp (k1 hc))) (λhc=>Wr T l1 h2 (Qp (k2 hc))) h
end rules
end
section
variable {W : World}
variable {P : Program}
abbrev af (x:Int):Int:=IntKind.i64.wrap x
abbrev bN (x:Int):Int:=IntKind.u8.wrap x
abbrev PN (x:Int):Int:=IntKind.u32.wrap x
abbrev eW (x:Int):Int:=IntKind.u64.wrap x
@[irreducible] def fuel : Nat := 18446744073709551616
theorem az {c:Prop} [Decidable c] {α:Type} {x:Option α} {r:α} (h:(if c then x else none)=some r):c/\x=some r:=by
 split at h
 ·exact⟨‹_›,h⟩
 ·cases h
theorem gu {α β:Type} {x:Option α} {f:α->Option β} {r:β} (h:x.bind f=some r): ∃v,x=some v/\f v=some r:=Option.bind_eq_some_iff.1 h
section rules
variable {T : Ty P} {n : Nat} {Q : Exit -> Act -> World -> Prop} {env : Env} {H : Hp} {K : Act -> World -> Prop}
theorem Qx {id:Nat} (h:At W n (Q (.exit id)) env H):At W n (Exit.then K Q (.exit id)) env H:=h
theorem Qu (h:At W n (Q .ret) env H):At W n (Exit.then K Q .ret) env H:=h
theorem Y5 {id:Nat} (h:At W n (Q .ret) env H):At W n (Exit.inBlock id Q .ret) env H:=h
theorem Y4 {id:Nat} (h:At W n (Q .normal) env H):At W n (Exit.inBlock id Q .normal) env H:=h
theorem Zh {id:Nat} (h:At W n (Q .normal) env H):At W n (Exit.inBlock id Q (.exit id)) env H:=λt w s o=>by
 have:=h t w s o;simpa[Exit.inBlock] using this
theorem Zi {id Kf:Nat} (bI:Nat.beq Kf id=false) (h:At W n (Q (.exit Kf)) env H):At W n (Exit.inBlock id Q (.exit Kf)) env H:=λt w s o=>by
 have:=h t w s o;have hn: ¬Kf=id:=λe=>by subst e;simp at bI
 simpa[Exit.inBlock,hn] using this
def DH {σ:Type} (W:World) (n:Nat) (I:σ->Prop) (E:σ->Env) (G:σ->List Hp):Act->World->Prop:=λa w=>
 ∃s,I s/\ ∃t,a=⟨t,[]⟩/\iy n t (E s)/\bl W w (G s).flatten
theorem Y1 {HL:List Hp} {σ:Type} {I:σ->Prop} {E:σ->Env} {G:σ->List Hp} (s:σ) (js:List Nat) (hi:I s) (hs:sub (E s) env) (hh:pick js HL=G s):aH W n (DH W n I E G) env HL:=
 λt w sl o=>⟨s,hi,t,rfl,sl.sub hs,hh▸Hm js o⟩
theorem Y_ {x y:Code} {σ:Type} (I:σ->Prop) (E:σ->Env) (G:σ->List Hp) (h1:At W n (x.wp P (Exit.then (DH W n I E G) Q)) env H)
 (h2: ∀s,I s->aH W n (y.wp P Q) (E s) (G s)):At W n ((Code.seq x y).wp P Q) env H:=by
 refine Qv (h1.mono λa w h=>wp_mono h λe a w h=>?_)
 cases e with
 |normal=>
  obtain⟨s,hi,t,rfl,sl,o⟩:=h;exact h2 s hi t w sl o
 |_=>exact h
theorem Qo {c:Code} {HL:List Hp} {σ:Type} (I:σ->Prop) (E:σ->Env) (G:σ->List Hp) (m:σ->Nat) (s0:σ) (js:List Nat) (hi:I s0) (hs:sub (E s0) env) (hh:pick js HL=G s0)
 (round: ∀s,I s->aH W n (c.wp P (Exit.then (Round W n I E (λs=>(G s).flatten) m s) Q)) (E s) (G s)):aH W n ((Code.loop c).wp P Q) env HL:=
 at_loop I E (λs=>(G s).flatten) m s0 hi hs (λ_ o=>hh▸Hm js o) round
theorem Y8 {HL:List Hp} {σ:Type} {I:σ->Prop} {E:σ->Env} {G:σ->List Hp} {m:σ->Nat} {s:σ} (s':σ) (js:List Nat) (hi:I s') (hm:m s'<m s) (hs:sub (E s') env) (hh:pick js HL=G s'):
 aH W n (Round W n I E (λs=>(G s).flatten) m s) env HL:=
 Y7 s' hi hm hs (λ_ o=>hh▸Hm js o)
inductive nI (T:Ty P) (env:Env) (H:Hp):List ResultVar->List Value->Prop
 |nil:nI T env H [] []
 |tmp {t:Nat} {v:Value} {rs:List ResultVar} {vs:List Value} (h:lk t env=some v) (r:nI T env H rs vs):nI T env H (.tmp t::rs) (v::vs)
 |cell {a b off t:Nat} {td:TypeDesc} {arr:Array Value} {E:TypeId} {fr:Nat×Nat} {v:Value} {rs:List ResultVar} {vs:List Value} (h:lk a env=some (.pointer (some ⟨b,off,none⟩)))
  (hu:T.bW t=some td) (ha:nK td=false) (hm:(b,Obj.cells arr E fr)∈H) (hc:arr[off]? =some v) (r:nI T env H rs vs):nI T env H (.cell a t::rs) (v::vs)
 |agg {a b off t:Nat} {td:TypeDesc} {arr:Array Value} {E:TypeId} {fr:Nat×Nat} {cs:List Value} {sz by':Nat} {z:Value} {rs:List ResultVar} {vs:List Value} (h:lk a env=some (.pointer (some ⟨b,off,none⟩)))
  (hu:T.bW t=some td) (ha:nK td=true) (hi:T.inf t=some (sz,by',z)) (hm:(b,Obj.cells arr E fr)∈H) (hl:cs.length=sz) (hc: ∀j v,cs[j]? =some v->arr[off+j]? =some v)
  (r:nI T env H rs vs):nI T env H (.cell a t::rs) (.agg cs.toArray::vs)
theorem O0 {α β:Type} {f:α->Sem β} {x:α} {l:List α} {v:β} {vs:List β} {w:World} (h1:(f x).run P w= .ok v w) (h2:(l.mapM f).run P w= .ok vs w):
 ((x::l).mapM f).run P w= .ok (v::vs) w:=by
 rw[List.mapM_cons,Sem.run_bind,h1,Result.andThen_ok,Sem.run_bind,h2];rfl
theorem nI.run {t:Array Value} {w:World} {rs:List ResultVar} {vs:List Value} (h:nI T env H rs vs) (s:iy n t env) (o:bl W w H):
 (rs.mapM λ(r:ResultVar)=>(match r with
   | .tmp k=>pure (t.getD k undef)
   | .cell a ty=>do loadVar ty (<-asAddr (t.getD a undef)):Sem Value)).run P w= .ok vs w:=by
 have Ny: ∀k v,lk k env=some v->t.getD k undef=v:=λk v hk=>by
  have:=s.2 k v hk;simp[Array.getD_eq_getD_getElem?,this]
 induction h with
 |nil=>rfl
 |tmp h r ih=>exact O0 (by simp only[Ny _ _ h];rfl) ih
 |cell h hu ha hm hc r ih=>
  have gw:=o.cell hm hc;refine O0 ?_ ih;simp only[Ny _ _ h,asAddr,loadVar,Sem.run_bind,Sem.run_pure,Result.andThen_ok,EF hu,ha,Bool.false_eq_true,if_false,run_load,gw]
 |agg h hu ha hi hm hl hc r ih=>
  rename_i cs sz _ _ _ _;have h1:=OZ (P:=P) w _ _ _ _ _ (o.lookup hm) sz cs 0 #[] hl (by simpa using hc)
  refine O0 ?_ ih;simp only[Ny _ _ h,asAddr,loadVar,Sem.run_bind,Sem.run_pure,Result.andThen_ok,EF hu,ha,if_true,jZ hi,loadCells,h1];simp
def zR:List Value->Value
 |[v]=>v
 |vs=> .tuple vs.toArray
theorem FJ {fn:Func} {R:Ending->World->Prop} {HL:List Hp} {rs:List ResultVar} {vs:List Value} (hf:fn.results.toList=rs) (hr:nI T env HL.flatten rs vs)
 (h: ∀w,bl W w HL.flatten->R (.returned (zR vs)) w):aH W n (bodyPost P fn R .ret) env HL:=by
 intro t w s o;refine⟨rfl,zR vs,?_,h w o⟩;unfold results;have h1:=hr.run (P:=P) (w:=w) s o;rw[<-hf] at h1;simp only[Sem.run_bind];rw[Array.mapM_eq_mapM_toList,Sem.run_map];refine Eq.trans (congrArg (λr=>Result.andThen (Result.andThen r _) _) h1) ?_;simp only[Result.andThen_ok,Sem.run_pure]
 congr 1
 match vs with
 |[]=>simp[zR]
 |[v]=>simp[zR]
 |v::u::r=>simp[zR]
theorem jk {fn:Func} {R:Ending->World->Prop} (h:At W n (bodyPost P fn R .ret) env H):At W n (bodyPost P fn R .normal) env H:=h
end rules
end
section
variable {W : World}
variable {P : Program}
def gS (W:World) (P:Program) (n:Nat) (env:Env) (H:Hp) (o:Oper) (v:Value):Prop:=
 ∀t w,iy n t env->bl W w H->(execOp (Act.eval ⟨t,[]⟩) o).run P w= .ok (.value v) w
def slot (n:Nat) (ops:Array Oper) (env:Env) (i:Nat):Option (Oper×Nat):=
 match ops[i]? with
 |none=>none
 |some o=>match want ops env o,o.dst with
  |some true,some d=>bif Nat.blt d n then some (o,d) else none
  |_,_=>none
theorem vj {n:Nat} {ops:Array Oper} {env:Env} {i:Nat} {o:Oper} {d:Nat} (h:slot n ops env i=some (o,d)):
 ops[i]? =some o/\want ops env o=some true/\o.dst=some d/\d<n:=by
 unfold slot at h;split at h
 ·cases h
 ·rename_i o' ho;split at h
  ·rename_i d' hw hd
   cases hb:Nat.blt d' n with
   |false=>simp[hb] at h
   |true=>
    simp only[hb,cond_true,Option.some.injEq,Prod.mk.injEq] at h;obtain⟨rfl,rfl⟩:=h;exact⟨ho,hw,hd,by simpa using hb⟩
  ·cases h
section rules
variable {T : Ty P} {n : Nat} {Q : Exit -> Act -> World -> Prop} {env : Env} {H H0 : Hp} {K : Act -> World -> Prop} {ops : Array Oper} {i d : Nat} {o : Oper} {v : Value} {rest : List Nat}
theorem lN (hs:slot n ops env i=some (o,d)) (hv:gS W P n env H o v) (h:At W n K ((d,v)::env) H):At W n (wpOp P ops Q i K) env H:=
 let⟨ho,hw,hd,hn⟩:=vj hs
 Qw ho hw hd hn hv h
theorem bx (hs:slot n ops env i=some (o,d)) (hv:gS W P n env H o v) (h:At W n (wpOps P ops Q rest) ((d,v)::env) H):At W n (wpOps P ops Q (i::rest)) env H:=
 aV (lN hs hv h)
theorem bg {l:List Oper} {F:Act->Prop} (hw:want ops env o=some true) (hd:o.dst=some d) (hn:Nat.blt d n=true) (hv:gS W P n env H o v)
 (h:iE W P n ops H l F ((d,v)::env)):iE W P n ops H (o::l) F env:=QC hw hd (by simpa using hn) hv h
def WS (T:Ty P) (n:Nat) (ops:Array Oper) (env:Env) (o:Oper):Option (Nat×Value):=
 match want ops env o,o.dst with
 |some true,some d=>bif Nat.blt d n then(match C2 T env o.op with |some v=>some (d,v) |none=>none) else none
 |some false,some d=>bif Nat.blt d n then some (d,undef) else none
 |_,_=>none
theorem au (T:Ty P) {e:Nat×Value} {l:List Oper} {F:Act->Prop} (hs:WS T n ops env o=some e) (h:iE W P n ops H l F (e::env)):iE W P n ops H (o::l) F env:=by
 unfold WS at hs;split at hs
 ·rename_i d hw hd
  cases hb:Nat.blt d n with
  |false=>simp[hb] at hs
  |true=>
   simp only[hb,cond_true] at hs;split at hs
   ·rename_i v hv;simp at hs;subst hs;exact Zs T hw hd (by simpa using hb) hv h
   ·cases hs
 ·rename_i d hw hd
  cases hb:Nat.blt d n with
  |false=>simp[hb] at hs
  |true=>
   simp[hb] at hs;subst hs;exact Zr hw hd (by simpa using hb) h
 ·cases hs
theorem WJ {t:Array Value} {s:Nat} {c b:Bool} (sl:iy n t env) (hs:lk s env=some (.bool c)) (hb:c=b):iy n t ((s,.bool b)::env):=
 ⟨sl.1,λk v hk=>by
   simp only[lk] at hk
   by_cases h:k=s
   ·subst h;have:Nat.beq k k=true:=by simp
    rw[this] at hk;simp at hk;rw[<-hk,<-hb];exact sl.2 k _ hs
   ·rw[xk h] at hk;exact sl.2 k v hk⟩
theorem QB {s:Nat} {c:Bool} {l:List Oper} {F:Act->Prop} (hs:lk s env=some (.bool c)) (ht:c=true->iE W P n ops H l F ((s,.bool true)::env)) (hf:c=false->iE W P n ops H l F ((s,.bool false)::env)):iE W P n ops H l F env:=by
 intro t sl
 cases hc:c
 ·exact hf hc t (WJ sl hs hc)
 ·exact ht hc t (WJ sl hs hc)
theorem cC (T:Ty P) {b off t:Nat} {x:Operand} {td:TypeDesc} (aR:o.op= .load t x) (hx:ev env x=some (.pointer (some ⟨b,off,none⟩)))
 (hu:T.bW t=some td) (ha:nK td=false) (hm: ∃arr E fr,(b,Obj.cells arr E fr)∈H/\arr[off]? =some v):gS W P n env H o v:=by
 intro t' w s ow;obtain⟨arr,E,fr,hm,hc⟩:=hm;unfold execOp;have gw:=ow.cell hm hc;simp[aR,bE s hx,Instr.loadAt,Instr.sureAddr,loadVar,EF hu,ha,gw]
theorem gd (T:Ty P) {b off t:Nat} {x:Operand} {td:TypeDesc} {cs:List Value} {sz by':Nat} {z:Value} (aR:o.op= .load t x) (hx:ev env x=some (.pointer (some ⟨b,off,none⟩)))
 (hu:T.bW t=some td) (ha:nK td=true) (hi:T.inf t=some (sz,by',z)) (hl:cs.length=sz) (hm: ∃arr E fr,(b,Obj.cells arr E fr)∈H/\ ∀j v,cs[j]? =some v->arr[off+j]? =some v):
 gS W P n env H o (.agg cs.toArray):=by
 intro t' w s ow;obtain⟨arr,E,fr,hm,hc⟩:=hm;unfold execOp;have hb:=ow.lookup hm;have:=OZ (P:=P) w b off arr E fr hb sz cs 0 #[] hl (by simpa using hc)
 simp[aR,bE s hx,Instr.loadAt,Instr.sureAddr,loadVar,EF hu,ha,jZ hi,loadCells,this]
theorem cB (T:Ty P) {m cap sz by' b off:Nat} {t E:TypeId} {x ix:Operand} {a:Option Addr} {kk:IntKind} {j:Int} {z:Value} (aR:o.op= .indexAddr t x ix)
 (hx:ev env x=some (.slice a m cap)) (xH:ev env ix=some (.int kk j)) (hu:T.bW t=some (.slice E)) (hi:T.inf E=some (sz,by',z))
 (ha:a=some ⟨b,off,none⟩) (h0:0<=j) (h1:j<(m:Int)):gS W P n env H o (.pointer (some ⟨b,off+j.toNat*sz,none⟩)):=by
 intro t' w s ow;subst ha;unfold execOp;simp only[aR,bE s hx,bE s xH,Instr.indexAt,asIntOf,Sem.run_bind,Sem.run_pure,Result.andThen_ok,cV hu,Sem.run_ite,h0,h1,and_self,if_true,jZ hi]
 congr 3
 unfold Addr.add;split
 ·rename_i h;simp[h]
 ·rfl
theorem uO {t yt:TypeId} {x y:Operand} {k:IntKind} {a b:Int} (aR:o.op= .binOp .quo t x y yt) (hx:ev env x=some (.int k a)) (hy:ev env y=some (.int k b)) (hb: ¬b=0):
 gS W P n env H o (.int k (k.wrap (a.tdiv b))):=by
 intro t' w s ow;unfold execOp;simp only[aR,bE s hx,bE s hy];simp[eqGuard,binOp,Op.intDiv,hb]
theorem uP {t yt:TypeId} {x y:Operand} {k:IntKind} {a b:Int} (aR:o.op= .binOp .rem t x y yt) (hx:ev env x=some (.int k a)) (hy:ev env y=some (.int k b)) (hb: ¬b=0):
 gS W P n env H o (.int k (a.tmod b)):=by
 intro t' w s ow;unfold execOp;simp only[aR,bE s hx,bE s hy];simp[eqGuard,binOp,Op.intDiv,hb]
theorem N7 {HL:List Hp} {j b:Nat} {arr:Array Value} {E:TypeId} {fr:Nat×Nat} {Hr:Hp} {off:Nat} (hj:idx j HL=some ((b,.cells arr E fr)::Hr)) {v:Value} (hv:idx off arr.toList=some v):
 ∃arr E fr,(b,Obj.cells arr E fr)∈HL.flatten/\arr[off]? =some v:=
 ⟨arr,E,fr,gY (by rw[<-idx_eq];exact hj) (List.mem_cons_self ..),by rw[idx_eq] at hv;simpa using hv⟩
variable {α : Type} [Inhabited α] {k : Fl α}
theorem aec {xs:List α} {a:Option Addr} (h:aP k xs a H) {b off:Nat} (ha:a=some ⟨b,off,none⟩) {j:Int} (h0:0<=j) (h1:j<(xs.length:Int)) {cs:List Value}
 (hc:k.enc (rd xs j)=cs): ∃arr E fr,(b,Obj.cells arr E fr)∈H/\ ∀i v,cs[i]? =some v->arr[off+j.toNat*k.size+i]? =some v:=by
 obtain⟨arr,E,fr,hm,h2⟩:=h.elem ha h0 h1;exact⟨arr,E,fr,hm,λi v hi=>h2 i v (by rw[hc];exact hi)⟩
end rules
section abq
variable {α : Type} {k : Fl α}
theorem Vp {HL:List Hp} {j:Nat} {Hj:Hp} {xs:List α} {a:Option Addr} {cap:Nat} {E:TypeId} (h:ak k E xs a cap Hj) (hj:idx j HL=some Hj):aP k xs a HL.flatten:=
 h.r.mono λ_ hc=>gY (by rw[<-idx_eq];exact hj) hc
theorem agS {HL:List Hp} {j:Nat} {Hj:Hp} {xs:List α} {a:Option Addr} (h:aP k xs a Hj) (hj:idx j HL=some Hj):aP k xs a HL.flatten:=
 h.mono λ_ hc=>gY (by rw[<-idx_eq];exact hj) hc
theorem CZ {w:World} {HL jw:List Hp} (js:List Nat) (h:pick js HL=jw) (o:bl W w HL.flatten):bl W w jw.flatten:=h▸Hm js o
theorem bA {n:Nat} {F:Act->World->Prop} {env:Env} {HL:List Hp} (h:aH W n F env (HL++[[]])):aH W n F env HL:=
 po (λw o=>by simpa using o) h
def gR (P:Program) (f:FuncId) (args:List Value) (HL:List Hp) {β:Type} (V:β->Value) (G:β->List Hp):Prop:=
 yM P f args.toArray HL.flatten V (λb=>(G b).flatten)
theorem aad {P:Program} {f:FuncId} {fn:Func} {c:Code} {args:List Value} {β:Type} {V:β->Value} {G:β->List Hp} {HL:List Hp} (env:Env)
 (hf:P.funcs[f]? =some fn) (hb:fn.body=some c) (hn:Nat.ble args.length fn.ntmps=true) (hs:sub env (args.zipIdx.map λx=>(x.2,x.1)))
 (h: ∀W,aH W fn.ntmps (c.wp P (bodyPost P fn λe w'=> ∃b,e= .returned (V b)/\bl W w' (G b).flatten)) env HL):gR P f args HL V G:=
 λW w ow=>aac env hf hb (by simpa using hn) (by simpa using hs) (h W) w ow
section call
variable {P : Program} {n : Nat} {Q : Exit -> Act -> World -> Prop} {env : Env} {K : Act -> World -> Prop} {ops : Array Oper} {i : Nat} {o : Oper} {rest : List Nat} {HL : List Hp}
theorem vJ {d:Nat} {c:Operand} {args:Array Operand} {types:Array TypeId} {f:FuncId} {first captured:Array Value} {vs as:List Value} {β:Type} {V:β->Value} {B:β->List Hp} {As R:List Hp}
 (js:List Nat) (hs:slot n ops env i=some (o,d)) (aR:o.op= .call ⟨.value c,args,types⟩) (hc:ev env c=some (.func (.func f) first captured)) (ha:args.toList.mapM (ev env)=some vs) (hf:Has P f)
 (has:first.toList++(vs++captured.toList)=as) (wh:qB js HL=(As,R)) (nS:gR P f as (As++[R.flatten]) V (λb=>B b++[R.flatten]))
 (h: ∀b,aH W n K ((d,V b)::env) (R++B b)):aH W n (wpOp P ops Q i K) env HL:=
 let⟨ho,hw,hd,hn⟩:=vj hs
 YQ js ho hw hd hn aR hc ha hf has wh (nS.imp (λ_ w o=>by simpa using o) (λb=>⟨b,rfl,λ_ w o=>by simpa using o⟩)) h
theorem uD {d:Nat} {c:Operand} {args:Array Operand} {types:Array TypeId} {f:FuncId} {first captured:Array Value} {vs as:List Value} {v:Value} {l:List Oper} {F:Act->Prop}
 (hw:want ops env o=some true) (hd:o.dst=some d) (hn:Nat.blt d n=true) (aR:o.op= .call ⟨.value c,args,types⟩) (hc:ev env c=some (.func (.func f) first captured)) (ha:args.toList.mapM (ev env)=some vs) (hf:Has P f)
 (has:first.toList++(vs++captured.toList)=as) (nS:gR P f as [HL.flatten] (λ_:Unit=>v) (λ_=>[HL.flatten]))
 (h:iE W P n ops HL.flatten l F ((d,v)::env)):iE W P n ops HL.flatten (o::l) F env:=
 Zp hw hd (by simpa using hn) aR hc ha hf has (nS.imp (λ_ w o=>by simpa using o) (λb=>⟨b,rfl,λ_ w o=>by simpa using o⟩)) h
end call
end abq
end
section
variable {W : World}
variable {P : Program}
def sL (ops:Array Oper) (env:Env) (i:Nat):Option Oper:=
 match ops[i]? with
 |none=>none
 |some o=>match want ops env o,o.dst with
  |some true,none=>some o
  |_,_=>none
theorem Bn {ops:Array Oper} {env:Env} {i:Nat} {o:Oper} (h:sL ops env i=some o):ops[i]? =some o/\want ops env o=some true/\o.dst=none:=by
 unfold sL at h;split at h
 ·cases h
 ·rename_i o' ho;split at h
  ·rename_i hw hd;simp only[Option.some.injEq] at h;subst h;exact⟨ho,hw,hd⟩
  ·cases h
section rules
variable {T : Ty P} {n : Nat} {Q : Exit -> Act -> World -> Prop} {env : Env} {HL : List Hp} {K : Act -> World -> Prop} {ops : Array Oper} {i d : Nat} {o : Oper} {rest : List Nat}
theorem Za (T:Ty P) {b off t:Nat} {x y:Operand} {arr:Array Value} {E:TypeId} {v:Value} {sz by':Nat} {z:Value} {Hr:Hp} (j:Nat) (cs:List Value)
 (hs:sL ops env i=some o) (aR:o.op= .store t x y) (hx:ev env x=some (.pointer (some ⟨b,off,none⟩)))
 (hy:ev env y=some v) (hi:T.inf t=some (sz,by',z)) (hj:idx j HL=some ((b,.cells arr E (0,0))::Hr)) (hl:Nat.beq (bL v).length sz=true) (hf:(bL v).all Value.oneCell'=true)
 (hb:Nat.ble (off+sz) arr.size=true) (jR:gj arr.toList off (bL v)=cs)
 (h:aH W n K env (HL.set j ((b,.cells cs.toArray E (0,0))::Hr))):aH W n (wpOp P ops Q i K) env HL:=
 let⟨ho,hw,hd⟩:=Bn hs
 DO T ho hw hd aR hx hy hi (by rw[<-idx_eq];exact hj) (Nat.eq_of_beq_eq_true hl) (λc hc=>List.all_eq_true.1 hf c hc) (Nat.le_of_ble_eq_true hb) jR h
theorem YG (T:Ty P) {t:Nat} {sz by':Nat} {z:Value} (cs:List Value) (hs:slot n ops env i=some (o,d)) (aR:o.op= .alloc t) (hi:T.inf t=some (sz,by',z)) (hz:bL z=cs)
 (h: ∀b,aH W n K ((d,.pointer (some ⟨b,0,none⟩))::env) (HL++[[(b,Obj.cells cs.toArray t (0,0))]])):aH W n (wpOp P ops Q i K) env HL:=
 let⟨ho,hw,hd,hn⟩:=vj hs
 YH T ho hw hd hn aR hi hz h
theorem Ql (T:Ty P) {t:Nat} {x:Operand} {v:Value} (cs:List Value) (hs:slot n ops env i=some (o,d)) (aR:o.op= .box t x) (hx:ev env x=some v) (hz:bL v=cs)
 (h: ∀b,aH W n K ((d,.pointer (some ⟨b,0,none⟩))::env) (HL++[[(b,Obj.cells cs.toArray t (0,0))]])):aH W n (wpOp P ops Q i K) env HL:=
 let⟨ho,hw,hd,hn⟩:=vj hs
 YN T ho hw hd hn aR hx hz h
variable {α : Type} {k : Fl α}
theorem Yl {m l c:Nat} (h:m+l<=1099511627776) (hc:Nat.ble c 128=true):(m+l)*c<=140737488355328:=by
 have:=Nat.le_of_ble_eq_true hc;have h2:(m+l)*c<=1099511627776*128:=Nat.mul_le_mul h this;omega
theorem eF (T:Ty P) {g:Nat} {s x:Operand} {t t' E E':TypeId} {xs ys:List α} {a a2:Option Addr} {cap cap2 sz by':Nat} {z:Value} {Hj:Hp}
 (ra:slot n ops env i=some (o,d)) (aR:o.op= .call ⟨.builtin .append,#[s,x],#[t,t']⟩)
 (hs:ev env s=some (.slice a xs.length cap)) (hx:ev env x=some (.slice a2 ys.length cap2)) (hu:T.bW t=some (.slice E)) (jD:T.bW t'=some (.slice E'))
 (hi:T.inf E=some (sz,by',z)) (hk:k.size=sz) (hz:(bL z).length=sz) (hj:idx g HL=some Hj) (so:ak k E xs a cap Hj) (sr:aP k ys a2 HL.flatten)
 (hb:xs.length+ys.length<=1099511627776) (jQ:Nat.ble by' 128=true)
 (h: ∀a' qU H',ak k E (xs++ys) a' qU H'->aH W n K ((d,.slice a' (xs++ys).length qU)::env) (HL.set g H')):aH W n (wpOp P ops Q i K) env HL:=
 let⟨ho,hw,hd,hn⟩:=vj ra
 YJ T ho hw hd hn aR hs hx hu jD hi hk hz (by rw[<-idx_eq];exact hj) so sr (Yl hb jQ) U h
theorem xh (T:Ty P) {t E:TypeId} {x y:Operand} {m:Int} {kk tG:IntKind} {sz by':Nat} {z:Value} (x0:α)
 (hs:slot n ops env i=some (o,d)) (aR:o.op= .makeSlice t x y) (hx:ev env x=some (.int kk m)) (hy:ev env y=some (.int tG m))
 (hu:T.bW t=some (.slice E)) (hi:T.inf E=some (sz,by',z)) (hk:k.size=sz) (hz:bL z=k.enc x0) (h0:0<=m/\m<=1099511627776) (jQ:Nat.ble by' 128=true)
 (h: ∀a cap H',ak k E (List.replicate m.toNat x0) a cap H'->aH W n K ((d,.slice a (List.replicate m.toNat x0).length cap)::env) (HL++[H'])):aH W n (wpOp P ops Q i K) env HL:=
 let⟨ho,hw,hd,hn⟩:=vj hs
 YX T x0 ho hw hd hn aR hx hy hu hi hk hz h0.1 U (by
  have h1:=Nat.le_of_ble_eq_true jQ;have h2:(by':Int)*m<=128*1099511627776:=by
   have h3:(by':Int)<=128:=U
   exact Int.mul_le_mul h3 h0.2 h0.1 U
  omega) h
theorem ag0 {T:Ty P} {t E sz by' len:Nat} {z:Value} {vs:List (Nat×Value)} {cs:List Value} {w:World} (hu:T.bW t=some (.slice E)) (hi:T.inf E=some (sz,by',z)) (hz:(bL z).length=sz)
 (hn:Nat.ble (len*sz) 16777216=true) (hf:vR (λi=>some (i*sz,sz)) ((List.range (len*sz)).map λi=>((bL z)[i%sz]?).getD default) vs=some cs):
 (Instr.buildSlice t len vs.toArray).run P w= .ok (.slice (some ⟨w.heap.size,0,none⟩) len len) (w.alloc (.cells cs.toArray E)):=by
 have Gx:=Nat.le_of_ble_eq_true hn;have wm:z.cells.size=sz:=by rw[<-hz,<-rW];simp
 have Tw: ∀zr:Array Value,(len*sz=0->zr= #[])->(len*sz≠0->zr=z.cells)->
  Instr.fill (λi=>some (i*sz,sz)) ((Array.range (len*sz)).map (zr[· %zr.size]!)) vs=some cs.toArray:=by
  intro zr h0 h1;apply My;rw[<-hf]
  congr 1
  simp only[Array.toList_map,Array.toList_range];apply List.map_congr_left;intro j hj;have jm:j<len*sz:=by simpa using hj
  have N5:=h1 U;subst N5;have hp:0<sz:=by
   rcases Nat.eq_zero_or_pos sz with h |h
   ·rw[h] at jm;omega
   ·exact h
  rw[wm,<-rW];have aS:j%sz<z.cells.size:=by rw[wm];exact Nat.mod_lt _ hp
  rw[getElem!_pos z.cells (j%sz) aS];simp[aS]
 by_cases h0:len*sz=0
 ·have:=Tw #[] (λ_=>rfl) (λh=>absurd h0 h);simp[Instr.buildSlice,cV hu,jZ hi,h0] at this⊢;simp[this,newRow]
 ·have:=Tw z.cells (λh=>absurd h h0) (λ_=>rfl);have Nz: ¬(16777216<len*sz):=U;simp[Instr.buildSlice,cV hu,jZ hi,h0,Bb hi,Nz,this,newRow]
theorem c_ (T:Ty P) {t E sz by' len:Nat} {z:Value} {parts:Array (Nat×Operand)} {vs:List (Nat×Value)} (ys:List α)
 (ra:slot n ops env i=some (o,d)) (aR:o.op= .buildSlice t len parts) (hu:T.bW t=some (.slice E)) (hi:T.inf E=some (sz,by',z)) (hz:(bL z).length=sz)
 (hn:Nat.ble (len*sz) 16777216=true) (hp:(parts.toList.mapM λp=>(ev env p.2).map λv=>(p.1,v))=some vs)
 (hf:vR (λi=>some (i*sz,sz)) ((List.range (len*sz)).map λi=>((bL z)[i%sz]?).getD default) vs=some (row k ys)) (hl:len=ys.length)
 (h: ∀a H',ak k E ys a ys.length H'->aH W n K ((d,.slice a ys.length ys.length)::env) (HL++[H'])):aH W n (wpOp P ops Q i K) env HL:=by
 subst hl;obtain⟨ho,hw,hd,xK⟩:=vj ra;refine yX (β:={p:Option Addr×Hp // ak k E ys p.1 ys.length p.2}) (V:=λp=> .slice p.1.1 ys.length ys.length) (G:=λp=>(HL++[p.1.2]).flatten)
  ho hw hd xK (λt' w s ow=>?_) (λp=>h _ _ p.2)
 refine⟨⟨(some ⟨w.heap.size,0,none⟩,[(w.heap.size,Obj.cells (row k ys).toArray E)]),.inr ⟨w.heap.size,[],[],rfl,by simp,by simp,by simp⟩⟩,w.alloc (.cells (row k ys).toArray E),?_,CY _ ow⟩
 have hr:=ag0 (P:=P) (w:=w) hu hi hz hn hf;have ad4:(parts.map λ(x:Nat×Operand)=>(x.1,Act.eval ⟨t',[]⟩ x.2))=vs.toArray:=by
  rw[<-Mt s hp];apply Array.ext';simp
 unfold execOp;simp only[aR,ad4,Sem.run_bind,hr,Result.andThen_ok,Sem.run_pure]
def gk (a:Option Addr) (cap lo sz:Nat):Option Addr:=if cap=lo then a else a.map (·.add (lo*sz))
def aB (xs:List α) (lo hi:Int):List α:=(xs.drop lo.toNat).take (hi.toNat-lo.toNat)
theorem iQ {xs:List α} {lo hi:Int} (h:0<=lo/\lo<=hi/\hi<=(xs.length:Int)):(aB xs lo hi).length=hi.toNat-lo.toNat:=by
 simp[aB];omega
theorem nq {xs:List α} {a:Option Addr} {H:Hp} {cap:Nat} (hr:aP k xs a H) {lo hi:Int} (h:0<=lo/\lo<=hi/\hi<=(xs.length:Int)) (hc:xs.length<=cap):aP k (aB xs lo hi) (gk a cap lo.toNat k.size) H:=by
 rcases hr with rfl |⟨b,off,arr,E,fr,rfl,hm,hh⟩
 ·left;simp[aB]
 ·by_cases he:lo.toNat=hi.toNat
  ·left;unfold aB;rw[he];simp
  ·have bI:cap≠lo.toNat:=U
   right
   refine⟨b,off+lo.toNat*k.size,arr,E,fr,?_,hm,λj v hj=>?_⟩
   ·simp only[gk,bI,if_false,Option.map_some,Addr.add];split
    ·rename_i h0;simp[h0]
    ·rfl
   ·have hx:xs=xs.take lo.toNat++(aB xs lo hi++xs.drop hi.toNat):=by
     unfold aB;have:xs.drop hi.toNat=(xs.drop lo.toNat).drop (hi.toNat-lo.toNat):=by rw[List.drop_drop];congr 1;omega
     rw[this,List.take_append_drop,List.take_append_drop]
    have h1:(row k xs)[lo.toNat*k.size+j]? =some v:=by
     rw[hx,qx,qx];have hl:(row k (xs.take lo.toNat)).length=lo.toNat*k.size:=by rw[lG];congr 1;simp;omega
     rw[List.getElem?_append_right U,hl,Nat.add_sub_cancel_left,List.getElem?_append_left (List.getElem?_eq_some_iff.1 hj).1];exact hj
    rw[Nat.add_assoc];exact hh _ _ h1
def GS (env:Env):Option Operand->Option Int
 |none=>some 0
 |some x=>match ev env x with
  |some (.int _ j)=>some j
  |_=>none
def NA (env:Env) (m:Nat):Option Operand->Option Int
 |none=>some m
 |some x=>match ev env x with
  |some (.int _ j)=>some j
  |_=>none
theorem run_sliceBound {y:Nat} {code:BoundsCode} {kk:IntKind} {j:Int} (h0:0<=j) (h1:j<=(y:Int)) (w:World):(Instr.sliceBound (.int kk j) y code).run P w= .ok j.toNat w:=by
 simp[Instr.sliceBound,asIntOf,h0,h1]
theorem kP (T:Ty P) {H:Hp} {t E sz by' cap:Nat} {z:Value} {x:Operand} {lo hi:Option Operand} {a:Option Addr} {xs:List α} {l h:Int} (aR:o.op= .slice t x lo hi none) (hx:ev env x=some (.slice a xs.length cap))
 (hu:T.bW t=some (.slice E)) (eY:T.inf E=some (sz,by',z)) (me:GS env lo=some l) (wb:NA env xs.length hi=some h) (hb:0<=l/\l<=h/\h<=(xs.length:Int)) (hc:xs.length<=cap):
 gS W P n env H o (.slice (gk a cap l.toNat sz) (aB xs l h).length (cap-l.toNat)):=by
 intro t' w s ow;have e1:(Instr.sliceBounds true xs.length cap (lo.map (Act.eval ⟨t',[]⟩)) (hi.map (Act.eval ⟨t',[]⟩)) none).run P w= .ok (l.toNat,h.toNat,cap) w:=by
  unfold Instr.sliceBounds
  cases hi with
  |none=>
   simp only[NA,Option.some.injEq] at wb
   cases lo with
   |none=>
    simp only[GS,Option.some.injEq] at me;subst me;subst wb;simp
   |some y=>
    simp only[GS] at me;split at me
    ·rename_i kk j hy;simp at me;subst me;subst wb;simp[bE s hy,run_sliceBound hb.1 hb.2.1]
    ·cases me
  |some y'=>
   simp only[NA] at wb;split at wb
   ·rename_i tG j' Kc;simp at wb;subst wb;have JN:j'<=(cap:Int):=U;have uS:0<=j':=U
    cases lo with
    |none=>
     simp only[GS,Option.some.injEq] at me;subst me;simp[bE s Kc,run_sliceBound uS JN]
    |some y=>
     simp only[GS] at me;split at me
     ·rename_i kk j hy;simp at me;subst me;have:j<=(j'.toNat:Int):=U;simp[bE s Kc,run_sliceBound uS JN,bE s hy,run_sliceBound hb.1 this]
     ·cases me
   ·cases wb
 have e2:(Instr.slice t (.slice a xs.length cap) (lo.map (Act.eval ⟨t',[]⟩)) (hi.map (Act.eval ⟨t',[]⟩)) none).run P w= .ok (.slice (gk a cap l.toNat sz) (aB xs l h).length (cap-l.toNat)) w:=by
  unfold Instr.slice;simp only[Sem.run_bind,cV hu,Result.andThen_ok];simp only[Sem.run_bind,e1,Result.andThen_ok,jZ eY,Sem.run_pure,iQ hb]
  rfl
 unfold execOp;simp only[aR,bE s hx,Option.map_none];unfold Instr.sliceAt;simp only[Sem.run_bind,cV hu,Result.andThen_ok];rw[e2];rfl
theorem nI.cT {T:Ty P} {j a b off t:Nat} {td:TypeDesc} {arr:Array Value} {E:TypeId} {fr:Nat×Nat} {sz by':Nat} {z:Value} {rs:List ResultVar} {vs:List Value} {Hr:Hp} (cs:List Value) (h:lk a env=some (.pointer (some ⟨b,off,none⟩)))
 (hu:T.bW t=some td) (ha:nK td=true) (hi:T.inf t=some (sz,by',z)) (hj:idx j HL=some ((b,.cells arr E fr)::Hr)) (hl:Nat.beq cs.length sz=true) (hv:(arr.toList.drop off).take cs.length=cs)
 (r:nI T env HL.flatten rs vs):nI T env HL.flatten (.cell a t::rs) (.agg cs.toArray::vs):=
 .agg h hu ha hi (gY (by rw[<-idx_eq];exact hj) (List.mem_cons_self ..)) (Nat.eq_of_beq_eq_true hl) (λj v h=>by
  rw[<-hv] at h;have hl:=(List.getElem?_eq_some_iff.1 h).1;rw[List.getElem?_take_of_lt (by simp at hl;omega),List.getElem?_drop] at h
  simpa using h) r
theorem fv [Inhabited α] {H:Hp} {xs:List α} {a:Option Addr} (h:aP k xs a H) {b off:Nat} (ha:a=some ⟨b,off,none⟩) {j:Int} (hj:0<=j/\j<(xs.length:Int)) (f:Nat) {v:Value}
 (hc:idx f (k.enc (rd xs j))=some v): ∃arr E fr,(b,Obj.cells arr E fr)∈H/\arr[off+j.toNat*k.size+f]? =some v:=h.at ha hj.1 hj.2 f hc
theorem iu [Inhabited α] {H:Hp} {xs:List α} {a:Option Addr} (h:aP k xs a H) {b off:Nat} (ha:a=some ⟨b,off,none⟩) {j:Int} (hj:0<=j/\j<(xs.length:Int)) {cs:List Value}
 (hc:k.enc (rd xs j)=cs): ∃arr E fr,(b,Obj.cells arr E fr)∈H/\ ∀i v,cs[i]? =some v->arr[off+j.toNat*k.size+i]? =some v:=aec h ha hj.1 hj.2 hc
theorem jN [Inhabited α] (T:Ty P) {b off t E:Nat} {x y:Operand} {v:Value} {sz by' cap:Nat} {z:Value} {Hj:Hp} {xs:List α} {a:Option Addr} {j:Int} (g f:Nat) (x':α)
 (ra:sL ops env i=some o) (aR:o.op= .store t x y) (hx:ev env x=some (.pointer (some ⟨b,off+j.toNat*k.size+f,none⟩)))
 (hy:ev env y=some v) (hi:T.inf t=some (sz,by',z)) (hj:idx g HL=some Hj) (hs:ak k E xs a cap Hj) (ha:a=some ⟨b,off,none⟩) (hb:0<=j/\j<(xs.length:Int))
 (hl:Nat.beq (bL v).length sz=true) (hf:Nat.ble (f+sz) k.size=true) (he:k.enc x'=gj (k.enc (rd xs j)) f (bL v))
 (h: ∀H',ak k E (xs.set j.toNat x') a cap H'->aH W n K env (HL.set g H')):aH W n (wpOp P ops Q i K) env HL:=
 let⟨ho,hw,hd⟩:=Bn ra
 Zc T x' ho hw hd aR hx hy hi (by rw[<-idx_eq];exact hj) hs ha hb.1 hb.2 (Nat.eq_of_beq_eq_true hl) (Nat.le_of_ble_eq_true hf) he h
end rules
end
section
open Go.RowKit
def tg (W:World):Hp:=W.heap.toList.zipIdx.map λx=>(x.2,x.1)
theorem oD {W:World} {b:Nat} {o:Obj} (h:W.heap[b]? =some o):(b,o)∈tg W:=by
 unfold tg;refine List.mem_map.2 ⟨(o,b),?_,rfl⟩;rw[List.mem_iff_getElem?];refine⟨b,?_⟩;rw[List.getElem?_zipIdx];simp[h]
theorem Vm (W:World):bl W W (tg W):=by
 refine⟨⟨rfl,rfl,rfl,Nat.le_refl _⟩,?_,?_⟩
 ·unfold tg;rw[List.map_map];have:((λx:Nat×Obj=>x.1)∘λ(x:Obj×Nat)=>(x.2,x.1))=Prod.snd:=rfl;rw[this,List.zipIdx_map_snd];exact List.nodup_range'
 ·intro c hc;unfold tg at hc;obtain⟨x,hx,rfl⟩:=List.mem_map.1 hc;rw[List.mem_iff_getElem?] at hx;obtain⟨i,hi⟩:=hx;rw[List.getElem?_zipIdx] at hi;simp only[Option.map_eq_some_iff] at hi;obtain⟨o,ho,rfl⟩:=hi;simpa using ho
theorem Vn {W w':World} (h:bl W w' (tg W)):Below W.heap.size W w':=by
 refine⟨h.1.1,h.1.2.1,h.1.2.2.1,?_,?_⟩
 ·rcases Nat.eq_zero_or_pos W.heap.size with h0 |h0
  ·omega
  ·have hl:W.heap.size-1<W.heap.size:=U;have:=h.lt (oD (Array.getElem?_eq_getElem hl));omega
 ·intro k hk;rw[Array.getElem?_eq_getElem hk];exact h.lookup (oD (Array.getElem?_eq_getElem hk))
theorem agV {P:Program} {f:FuncId} {as:List Value} {v:Value} (W:World) (h:gR P f as [tg W] (λ_:Unit=>v) (λ_=>[tg W])):
 Calls P f as.toArray W (λe w'=>e= .returned v/\Below W.heap.size W w'):=
 (h W W (by simpa using Vm W)).mono λe w' ⟨_,he,o⟩=>⟨he,Vn (by simpa using o)⟩
def IF {α:Type} (P:Program) (t:TypeId) (k:Fl α) (D3:α->Prop):Prop:=
 P.cellsOf t=k.size/\ ∀{H:Type} (enc:TypeId×Value->H) (w:World) (base:Nat) (spare:Nat->Bool) (held:Bool) (n:Nat) (cs:List Value) (y:DataW H×List MemPlace),
  DataW.trod enc P w base spare held n t cs=some y-> ∃x,cs=k.enc x/\D3 x
def ss (n:Int):Prop:= -9223372036854775808<=n/\n<=9223372036854775807
def dQ (n:Int):Prop:=0<=n/\n<=255
theorem wf_i64 {n:Int} (h:(Lit.int .i64 n).wf=true):ss n:=by
 simpa[Lit.wf,IntKind.min,IntKind.max,IntKind.signed,IntKind.bits,ss] using h
theorem wf_u8 {n:Int} (h:(Lit.int .u8 n).wf=true):dQ n:=by
 simpa[Lit.wf,IntKind.min,IntKind.max,IntKind.signed,IntKind.bits,dQ] using h
theorem afS {P:Program} {t:TypeId} (ht:P.underlying t=some (.int .i64)) (hc:P.cellsOf t=1):IF P t (Fl.int .i64) ss:=
 ⟨hc,λ_ _ _ _ _ _ _ _ h=>let⟨n,h1,_,h3⟩:=DataW.trod_int ht h;⟨n,h1,wf_i64 h3⟩⟩
theorem afT {P:Program} {t:TypeId} (ht:P.underlying t=some (.int .u8)) (hc:P.cellsOf t=1):IF P t (Fl.int .u8) dQ:=
 ⟨hc,λ_ _ _ _ _ _ _ _ h=>let⟨n,h1,_,h3⟩:=DataW.trod_int ht h;⟨n,h1,wf_u8 h3⟩⟩
theorem Q3 {W:World} {a:Addr} {v:Value} (h:W.cell? a=some v): ∃c T fr,W.heap[a.block]? =some (.cells c T fr)/\a.spot=none/\c[a.off]? =some v:=by
 unfold World.cell? at h;split at h
 ·rename_i c T fr hb;split at h
  ·cases h
  ·rename_i hs;exact⟨c,T,fr,hb,by simpa using hs,h⟩
 ·cases h
theorem OG {α:Type} {P:Program} {W:World} {H:Type} {enc:TypeId×Value->H} {spare:Nat->Bool} {held:Bool} {fuel:Nat} {t e:TypeId} {k:Fl α} {D3:α->Prop} {cs:List Value} {y:DataW H×List MemPlace}
 (ht:P.underlying t=some (.slice e)) (ho:IF P e k D3) (h:DataW.trod enc P W 0 spare held fuel t cs=some y):
 ∃a cap xs,cs=[.slice a (List.length xs) cap]/\aP k xs a (tg W)/\List.length xs<=cap/\(∀x∈xs,D3 x)/\List.length xs<=9223372036854775807:=by
 rcases DataW.trod_slice ht h with⟨rfl,rfl⟩ |⟨a,len,cap,elems,rest,n,_,rfl,rfl,hb,hl,hm,hlen,Tu,_,_⟩
 ·exact⟨none,0,[],rfl,.inl rfl,by simp,by simp,by simp⟩
 ·rw[ho.1] at Tu;have each: ∀i,i<len-> ∃x,D3 x/\ ∀j v,(k.enc x)[j]? =some v->W.cell? ((a.add (i*k.size)).add j)=some v:=by
   intro i hi;have hy:=Tu i hi;rw[List.getElem?_eq_getElem U] at hy;obtain⟨tq,h1,h2⟩:=Option.bind_eq_some_iff.1 hy;obtain⟨x,hx,hg⟩:=ho.2 enc W 0 spare held n tq _ h2;obtain⟨_,zs,hc⟩:=World.cells?_some h1;refine⟨x,hg,λj v hj=>?_⟩
   have lB:=(List.getElem?_eq_some_iff.1 hj).1;rw[k.len] at lB;rw[hc j lB,hx];exact hj
  have hex: ∀m,m<=len-> ∃xs:List α,xs.length=m/\(∀x∈xs,D3 x)/\ ∀i x,xs[i]? =some x-> ∀j v,(k.enc x)[j]? =some v->W.cell? ((a.add (i*k.size)).add j)=some v:=by
   intro m
   induction m with
   |zero=>exact λ_=>⟨[],rfl,by simp,by simp⟩
   |succ m ih=>
    intro hle;obtain⟨xs,h1,h2,h3⟩:=ih U;obtain⟨x,Ct,wk⟩:=each m U;refine⟨xs++[x],by simp[h1],?_,?_⟩
    ·intro z hz;rcases List.mem_append.1 hz with hz |hz
     ·exact h2 z hz
     ·simp at hz;subst hz;exact Ct
    ·intro i z hz
     by_cases hi:i<xs.length
     ·rw[List.getElem?_append_left hi] at hz;exact h3 i z hz
     ·rw[List.getElem?_append_right U] at hz;have:i=m:=by
       have:=(List.getElem?_eq_some_iff.1 hz).1;simp at this;omega
      subst this;simp[h1] at hz;subst hz;exact wk
  obtain⟨xs,h1,h2,h3⟩:=hex len (Nat.le_refl _);subst h1;refine⟨some a,cap,xs,rfl,?_,hl,h2,by unfold maxLen at hm;omega⟩
  cases xs with
  |nil=>exact .inl rfl
  |cons x0 r=>
   right
   have hp:=k.pos;obtain⟨v0,zw⟩: ∃v,(k.enc x0)[0]? =some v:=⟨(k.enc x0)[0]'(by rw[k.len];exact hp),by rw[List.getElem?_eq_getElem]⟩
   have h0:=h3 0 x0 rfl 0 v0 zw;have e0:(a.add (0*k.size)).add 0=a:=by simp[Addr.add]
   rw[e0] at h0;obtain⟨c,T,fr,Ea,hs,_⟩:=Q3 h0;refine⟨a.block,a.off,c,T,fr,?_,oD Ea,?_⟩
   ·cases a;simp at hs;simp[hs]
   ·intro j v hj;have lB:=(List.getElem?_eq_some_iff.1 hj).1;rw[lG] at lB;have hq:j/k.size<(x0::r).length:=by rw[Nat.div_lt_iff_lt_mul hp];exact lB
    have hr:j%k.size<k.size:=Nat.mod_lt _ hp;have hg:=Da k (x0::r) (j/k.size) (j%k.size) hq hr;rw[Nat.div_add_mod' j k.size] at hg;rw[hg] at hj;have h5:=h3 (j/k.size) _ (List.getElem?_eq_getElem hq) (j%k.size) v hj;have e1:(a.add (j/k.size*k.size)).add (j%k.size)=⟨a.block,a.off+j,none⟩:=by
     have hdm:=Nat.div_add_mod' j k.size;unfold Addr.add
     cases a;simp at hs;subst hs;split<;>split<;>simp<;>omega
    rw[e1] at h5;obtain⟨c',T',fr',uS,_,JO⟩:=Q3 h5;simp at uS JO;rw[Ea] at uS;simp at uS;obtain⟨rfl,_,_⟩:=uS;exact JO
def dF {α β:Type} (o:Option α) (a:Option β) (f:α->Option β):Option β:=match o with
 |none=>a
 |some x=>f x
theorem ff {α β:Type} {o:Option α} {a:Option β} {f:α->Option β} {r:β} (h:o=none) (H:dF o a f=some r):a=some r:=by subst h;exact H
theorem fg {α β:Type} {o:Option α} {x:α} {a:Option β} {f:α->Option β} {r:β} (h:o=some x) (H:dF o a f=some r):f x=some r:=by subst h;exact H
theorem Ow {α:Type} {k:Fl α} {xs:List α} {a:Option Addr} {H:Hp} (h:aP k xs a H) (hn:Option.isNone a=true):xs=[]:=by
 rcases h with h |⟨b,off,arr,E,fr,h1,_⟩
 ·exact h
 ·subst h1;cases hn
section aab
variable {P : Program} {n : Nat} {Q : Exit -> Act -> World -> Prop} {env : Env} {K : Act -> World -> Prop} {ops : Array Oper} {i : Nat} {o : Oper} {W : World} {HL : List Hp}
theorem FF {d:Nat} {c:Operand} {args:Array Operand} {types:Array TypeId} {f:FuncId} {first captured:Array Value} {vs as:List Value} {As R:List Hp} (Rp:Value->List Hp->Prop) (Kp:List Hp)
 (js:List Nat) (hs:slot n ops env i=some (o,d)) (aR:o.op= .call ⟨.value c,args,types⟩) (hc:ev env c=some (.func (.func f) first captured)) (ha:args.toList.mapM (ev env)=some vs) (hf:Has P f)
 (has:first.toList++(vs++captured.toList)=as) (wh:qB js HL=(As,R))
 (nS:gR P f as (As++[R.flatten]) (λp:{p:Value×List Hp // Rp p.1 p.2}=>p.1.1) (λp=>(p.1.2++Kp)++[R.flatten]))
 (h: ∀u G,Rp u G->aH W n K ((d,u)::env) (R++(G++Kp))):aH W n (wpOp P ops Q i K) env HL:=
 vJ (B:=λp:{p:Value×List Hp // Rp p.1 p.2}=>p.1.2++Kp) js hs aR hc ha hf has wh nS (λp=>h p.1.1 p.1.2 p.2)
theorem Zq {d:Nat} {c:Operand} {args:Array Operand} {types:Array TypeId} {f:FuncId} {first captured:Array Value} {vs as:List Value} {v:Value} {l:List Oper} {F:Act->Prop} {As R:List Hp}
 (js:List Nat) (hw:want ops env o=some true) (hd:o.dst=some d) (hn:Nat.blt d n=true) (aR:o.op= .call ⟨.value c,args,types⟩) (hc:ev env c=some (.func (.func f) first captured)) (ha:args.toList.mapM (ev env)=some vs) (hf:Has P f)
 (has:first.toList++(vs++captured.toList)=as) (wh:qB js HL=(As,R)) (nS:gR P f as (As++[R.flatten]) (λ_:Unit=>v) (λ_=>As++[R.flatten]))
 (h:iE W P n ops HL.flatten l F ((d,v)::env)):iE W P n ops HL.flatten (o::l) F env:=by
 have hp:HL.flatten.Perm (As++[R.flatten]).flatten:=by have:=HK js HL;rw[wh] at this;simpa using this
 refine uD hw hd hn aR hc ha hf has (yM.imp nS (λW w o=>(show bl W w HL.flatten by simpa using o).perm hp) (λb=>⟨b,rfl,λW w o=>by simpa using bl.perm o hp.symm⟩)) h
end aab
end
section
variable {W : World}
section late
variable {P : Program} {ops : Array Oper} {Q : Exit -> Act -> World -> Prop} {S : World -> Prop} {late : List Nat} {A : List (List Nat)}
def ri (late:List Nat) (listed:Array Bool):Bool:=late.all λl=>!(listed.getD l false)
def gz (P:Program) (ops:Array Oper) (Q:Exit->Act->World->Prop) (S:World->Prop) (late:List Nat):Nat->Array Bool->Act->World->Prop
 |0,listed,a,w=>Region.ready .any ops listed=[]/\Q .normal a w
 |fuel+1,listed,a,w=>
  (Region.ready .any ops listed=[]->Q .normal a w)/\
  ∀i∈Region.ready .any ops listed,wpOp P ops Q i (λa' w'=>(ri late (listed.setIfInBounds i true)=true->S w')/\gz P ops Q S late fuel (listed.setIfInBounds i true) a' w') a w
theorem Xm: ∀(fuel:Nat) (listed:Array Bool) (a:Act) (w:World),gz P ops Q S late fuel listed a w->wpAny P .any ops Q fuel listed a w
 |0,_,_,_,h=>h
 |fuel+1,_,_,_,h=>⟨h.1,λi hi=>wpOp_mono (λa' w' h'=>Xm fuel _ a' w' h'.2) (h.2 i hi)⟩
def FA (ops:Array Oper) (A:List (List Nat)):Bool:=
 (List.range ops.size).all λj=>(A.getD j []).all λk=>(ops.getD j default).after.toList.any λe=>Region.binds .any e&&(e.on==k||(A.getD e.on []).contains k)
def shut (A:List (List Nat)) (listed:Array Bool):Bool:=
 (List.range listed.size).all λj=>!(listed.getD j false)||(A.getD j []).all λk=>listed.getD k false
theorem Pf {listed:Array Bool} (h:shut A listed=true) {j k:Nat} (hj:listed.getD j false=true) (hk:k∈A.getD j []):listed.getD k false=true:=by
 unfold shut at h;rw[List.all_eq_true] at h;have aS:j<listed.size:=by
  rcases Nat.lt_or_ge j listed.size with h' |h'
  ·exact h'
  ·simp[Array.getD,Nat.not_lt.2 h'] at hj
 have:=h j (List.mem_range.2 aS);rw[hj] at this;simp only[Bool.not_true,Bool.false_or,List.all_eq_true] at this;exact this k hk
theorem ahw {listed:Array Bool} (h: ∀j k,listed.getD j false=true->k∈A.getD j []->listed.getD k false=true):shut A listed=true:=by
 unfold shut;rw[List.all_eq_true];intro j _
 cases hj:listed.getD j false with
 |false=>rfl
 |true=>
  simp only[Bool.not_true,Bool.false_or,List.all_eq_true];exact λk hk=>h j k hj hk
theorem Yg (ha:FA ops A=true) {listed:Array Bool} (hs:shut A listed=true) {j:Nat} (hj:j∈Region.ready .any ops listed) {k:Nat} (hk:k∈A.getD j []):listed.getD k false=true:=by
 obtain⟨_,oj,Ei,sa⟩:=mem_ready.1 hj;unfold FA at ha;rw[List.all_eq_true] at ha;have aS:j<ops.size:=(Array.getElem?_eq_some_iff.1 Ei).1;have h1:=ha j (List.mem_range.2 aS);rw[List.all_eq_true] at h1;have h2:=h1 k hk;have hg:ops.getD j default=oj:=by simp[Array.getD,aS];exact(Array.getElem?_eq_some_iff.1 Ei).2
 rw[hg,List.any_eq_true] at h2;obtain⟨e,he,h3⟩:=h2;simp only[Bool.and_eq_true,Bool.or_eq_true,beq_iff_eq] at h3;have h4:=sa e (Array.mem_toList_iff.1 he) h3.1;rcases h3.2 with h5 |h5
 ·rw[<-h5];exact h4
 ·exact Pf hs h4 (by simpa using h5)
theorem Jo {listed:Array Bool} {j k:Nat} (d:Bool) (h:j≠k):(listed.setIfInBounds j true).getD k d=listed.getD k d:=by
 cases d with
 |true=>exact getD_set_ne true h
 |false=>
  rcases Nat.lt_or_ge k listed.size with h' |h'
  ·simp[Array.getD,h',Array.getElem_setIfInBounds,h]
  ·simp[Array.getD,Nat.not_lt.2 h']
theorem ahx {listed:Array Bool} (ha:FA ops A=true) (hs:shut A listed=true) {j:Nat} (hj:j∈Region.ready .any ops listed):shut A (listed.setIfInBounds j true)=true:=by
 refine ahw λx k hx hk=>?_
 have up: ∀k,listed.getD k false=true->(listed.setIfInBounds j true).getD k false=true:=λk hk=>by
  by_cases Gt:j=k
  ·subst Gt;rcases Nat.lt_or_ge j listed.size with h' |h'
   ·simp[Array.getD,h']
   ·simp[Array.getD,Nat.not_lt.2 h'] at hk
  ·rw[Jo false Gt];exact hk
 by_cases TF:j=x
 ·subst TF;exact up k (Yg ha hs hj hk)
 ·rw[Jo false TF] at hx;exact up k (Pf hs hx hk)
theorem Py {listed:Array Bool} {i:Nat} (hr:i∈Region.ready .any ops listed):listed.getD i false=false:=by
 have h0:=(mem_ready.1 hr).1;rcases Nat.lt_or_ge i listed.size with h' |h'
 ·simp[Array.getD,h'] at h0⊢;exact h0
 ·simp[Array.getD,Nat.not_lt.2 h'] at h0
theorem aeS {listed:Array Bool} {i:Nat} (hl:(late.all λj=>(A.getD j []).contains i)=true) (hs:shut A listed=true) (hi:listed.getD i false=false):ri late listed=true:=by
 unfold ri;rw[List.all_eq_true] at hl⊢;intro j hj
 cases hb:listed.getD j false with
 |false=>rfl
 |true=>
  have h1:=hl j hj;have:=Pf hs hb (k:=i) (by simpa using h1)
  rw[hi] at this;cases this
theorem N_ {listed:Array Bool} {i:Nat} (hi:late.contains i=false):ri late (listed.setIfInBounds i true)=ri late listed:=by
 unfold ri;rw[Bool.eq_iff_iff,List.all_eq_true,List.all_eq_true];have h: ∀l∈late,i≠l:=λl hl e=>by subst e;simp[hl] at hi
 constructor
 ·intro q l hl;have:=q l hl;rwa[Jo false (h l hl)] at this
 ·intro q l hl;rw[Jo false (h l hl)];exact q l hl
theorem aiB {T:World->Prop} {i:Nat} {oi:Oper} {v:Value} (hi:ops[i]? =some oi) (wh: ∀(j:Nat) (o:Oper) cs b,ops[j]? =some o->o.op≠ .select cs b)
 (hQ: ∀c a w,Q (.panic c) (a.put oi.dst v) w->Q (.panic c) a w) (MN: ∀w,S w->T w) (hl:(∀w,T w)∨(late.all λj=>(A.getD j []).contains i)=true) (hn:late.contains i=false) (ha:FA ops A=true):
 ∀(fuel:Nat) (listed:Array Bool) (a:Act) (w:World),
  (∀j oj,ops[j]? =some oj->j≠i->listed.getD j true=false->(∀e∈oj.after,Region.binds .any e=true->e.on≠i)->oi.apart ops oj=true)->shut A listed=true->
  i∈Region.ready .any ops listed->YieldsIf P ops T oi v a->(ri late listed=true->S w)->
  gz P ops Q S late fuel (listed.setIfInBounds i true) (a.put oi.dst v) w->gz P ops Q S late (fuel+1) listed a w:=by
 intro fuel;have tell: ∀(listed:Array Bool) (w:World),shut A listed=true->listed.getD i false=false->(ri late listed=true->S w)->T w:=by
  intro listed w hs hr hw;rcases hl with hl |hl
  ·exact hl w
  ·exact MN w (hw (aeS hl hs hr))
 induction fuel with
 |zero=>
  intro listed a w _ hs hr hy hS H;refine⟨λh=>(by rw[h] at hr;cases hr),λj hj=>?_⟩
  by_cases we:j=i
  ·subst we;exact hy.wpOp hi (tell listed w hs (Py hr) hS) ⟨λhc=>hS (by rwa[N_ hn] at hc),H⟩
  ·have:=ready_mono hj we;rw[H.1] at this
   cases this
 |succ fuel ih=>
  intro listed a w Tx hs hr hy hS H;refine⟨λh=>(by rw[h] at hr;cases hr),λj hj=>?_⟩
  by_cases we:j=i
  ·subst we;exact hy.wpOp hi (tell listed w hs (Py hr) hS) ⟨λhc=>hS (by rwa[N_ hn] at hc),H⟩
  ·have h1:=H.2 j (ready_mono hj we);obtain⟨TE,oj,Ei,sa⟩:=mem_ready.1 hj;have ad2: ∀e∈oj.after,Region.binds .any e=true->e.on≠i:=λe he hb heq=>by
    have h1:=sa e he hb;rw[heq,Py hr] at h1;cases h1
   have h2:=wpOp_putIf Ei (Tx j oj Ei we TE ad2) (λcs b=>wh i oi cs b hi) (λcs b=>wh j oj cs b Ei) hQ hy h1;have adU: ∀k ok,ops[k]? =some ok->k≠i->(listed.setIfInBounds j true).getD k true=false->
    (∀e∈ok.after,Region.binds .any e=true->e.on≠i)->oi.apart ops ok=true:=λk ok hk hki T6 oQ=>by
    refine Tx k ok hk hki ?_ oQ
    by_cases Gt:j=k
    ·subst Gt;exact TE
    ·rw[getD_set_ne true Gt] at T6;exact T6
   refine wpOp_mono (λa' w' h3=>?_) h2;have e1:ri late ((listed.setIfInBounds i true).setIfInBounds j true)=ri late (listed.setIfInBounds j true):=by
    rw[Array.setIfInBounds_comm _ _ (Ne.symm we)];exact N_ hn
   have Sd:ri late (listed.setIfInBounds j true)=true->S w':=λh=>h3.2.1 (by rw[e1];exact h)
   refine⟨Sd,ih (listed.setIfInBounds j true) a' w' adU (ahx ha hs hj) (ready_mono hr (Ne.symm we)) h3.1 Sd ?_⟩;rw[Array.setIfInBounds_comm _ _ we];exact h3.2.2
end late
section agK
variable {P : Program} {n : Nat} {Q : Exit -> Act -> World -> Prop} {env : Env} {ops : Array Oper} {i : Nat} {o : Oper} {HL : List Hp} {late : List Nat} {A : List (List Nat)} {H0 : List Hp} {fuel : Nat} {listed : Array Bool}
def SO (W:World) (H0:List Hp) (w:World):Prop:=bl W w H0.flatten
def oJ (ops:Array Oper) (A:List (List Nat)):Bool:=FA ops A&&Region.noSelect ops
def Bs (ops:Array Oper) (A:List (List Nat)) (late:List Nat) (listed:Array Bool) (i:Nat):Bool:=
 Region.free .any ops listed i&&((Region.ready .any ops listed).contains i&&(shut A listed&&!(late.contains i)))
def pk (W:World) (late:List Nat) (listed:Array Bool) (HL H0:List Hp):Prop:=ri late listed=false∨ ∀w,bl W w HL.flatten->SO W H0 w
theorem ahX (js:List Nat) (h:pick js HL=H0):pk W late listed HL H0:= .inr λ_ o=>CZ js h o
theorem pk.of (h:pk W late listed HL H0) {w:World} (o:bl W w HL.flatten) (hl:ri late listed=true):SO W H0 w:=by
 rcases h with h |h
 ·rw[h] at hl;cases hl
 ·exact h w o
theorem Qt (A:List (List Nat)) (late:List Nat) (H0:List Hp) {id:Nat} (hm:P.follows .mixedOrders=true) (hg:oJ ops A=true) (jC:PF Q)
 (h:oJ ops A=true->PF Q->aH W n (gz P ops Q (SO W H0) late ops.size (Array.replicate ops.size false)) env HL):
 aH W n ((Code.region id ops true).wp P Q) env HL:=
 λt _ s ow=>wp_region_any hm (Xm _ _ _ _ (h hg jC t _ s ow.drew))
theorem LS {d:Nat} {v:Value} {Tp:World->Prop} (hg:oJ ops A=true) (jC:PF Q) (hb:Bs ops A late listed i=true) (hS:pk W late listed HL H0) (MN: ∀w,SO W H0 w->Tp w)
 (hl:(∀w,Tp w)∨(late.all λj=>(A.getD j []).contains i)=true) (ho:ops[i]? =some o) (hd:o.dst=some d) (hn:d<n)
 (hy: ∀t,iy n t env->YieldsIf P ops Tp o v ⟨t,[]⟩)
 (h:aH W n (gz P ops Q (SO W H0) late fuel (listed.setIfInBounds i true)) ((d,v)::env) HL):aH W n (gz P ops Q (SO W H0) late (fuel+1) listed) env HL:=by
 intro t w s ow;simp only[oJ,Bool.and_eq_true] at hg;simp only[Bs,Bool.and_eq_true,Bool.not_eq_true'] at hb;obtain⟨h1,h2,h3,h4⟩:=hb;refine aiB (v:=v) ho (Region.noSelect_spec hg.2) (λc a w'=>jC c a o.dst v w') MN hl h4 hg.1 fuel listed _ w (Region.free_spec ho h1) h3 (by simpa using h2) (hy t s) (λq=>hS.of ow q) ?_
 have:=h _ w (s.put (v:=v) hn) ow;simpa[Act.put,hd] using this
theorem QA (T:Ty P) (i:Nat) {e:Nat×Value} (hg:oJ ops A=true) (jC:PF Q) (hb:Bs ops A late listed i=true) (hS:pk W late listed HL H0) (hs:z7 T n ops env i=some e)
 (h:aH W n (gz P ops Q (SO W H0) late fuel (listed.setIfInBounds i true)) (e::env) HL):aH W n (gz P ops Q (SO W H0) late (fuel+1) listed) env HL:=by
 unfold z7 at hs;split at hs
 ·cases hs
 ·rename_i o ho;split at hs
  ·rename_i d hw hd
   cases kn:Nat.blt d n with
   |false=>simp[kn] at hs
   |true=>
    simp only[kn,cond_true] at hs;split at hs
    ·rename_i v hv;simp at hs;subst hs;exact LS (Tp:=λ_=>True) hg jC hb hS (λ_ _=>trivial) (.inl λ_=>trivial) ho hd (by simpa using kn) (λt s=> .inl ⟨BB s hw,λw _=>KL s hv w⟩) h
    ·cases hs
  ·rename_i d hw hd
   cases kn:Nat.blt d n with
   |false=>simp[kn] at hs
   |true=>
    simp[kn] at hs;subst hs;exact LS (Tp:=λ_=>True) hg jC hb hS (λ_ _=>trivial) (.inl λ_=>trivial) ho hd (by simpa using kn) (λt s=> .inr ⟨BB s hw,rfl⟩) h
  ·cases hs
theorem Zo (i:Nat) {d:Nat} {v:Value} (hg:oJ ops A=true) (jC:PF Q) (hb:Bs ops A late listed i=true) (hS:pk W late listed HL H0) (hl:(late.all λj=>(A.getD j []).contains i)=true)
 (hs:slot n ops env i=some (o,d)) (hv:gS W P n env H0.flatten o v)
 (h:aH W n (gz P ops Q (SO W H0) late fuel (listed.setIfInBounds i true)) ((d,v)::env) HL):aH W n (gz P ops Q (SO W H0) late (fuel+1) listed) env HL:=
 let⟨ho,hw,hd,hn⟩:=vj hs
 LS (Tp:=SO W H0) hg jC hb hS (λ_ h=>h) (.inr hl) ho hd hn (λt s=> .inl ⟨BB s hw,λw q=>hv t w s q⟩) h
def rQ (W:World) (P:Program) (ops:Array Oper) (Q:Exit->Act->World->Prop) (H0:List Hp) (late:List Nat) (fuel:Nat) (listed:Array Bool) (a:Act) (w:World):Prop:=
 (ri late listed=true->SO W H0 w)/\gz P ops Q (SO W H0) late fuel listed a w
theorem Zk (hS:pk W late listed HL H0) (h:aH W n (gz P ops Q (SO W H0) late fuel listed) env HL):aH W n (rQ W P ops Q H0 late fuel listed) env HL:=
 λt w s ow=>⟨λq=>hS.of ow q,h t w s ow⟩
theorem Zl (i:Nat) (hr:Region.ready .any ops listed=[i]) (h:aH W n (wpOp P ops Q i (rQ W P ops Q H0 late fuel (listed.setIfInBounds i true))) env HL):
 aH W n (gz P ops Q (SO W H0) late (fuel+1) listed) env HL:=by
 intro t w s ow;refine⟨λq=>(by rw[hr] at q;cases q),λj hj=>?_⟩
 rw[hr] at hj;simp at hj;subst hj;exact h t w s ow
theorem Zn (i j:Nat) (hr:Region.ready .any ops listed=[i,j]) (h1:aH W n (wpOp P ops Q i (rQ W P ops Q H0 late fuel (listed.setIfInBounds i true))) env HL)
 (h2:aH W n (wpOp P ops Q j (rQ W P ops Q H0 late fuel (listed.setIfInBounds j true))) env HL):
 aH W n (gz P ops Q (SO W H0) late (fuel+1) listed) env HL:=by
 intro t w s ow;refine⟨λq=>(by rw[hr] at q;cases q),λk hk=>?_⟩
 rw[hr] at hk;simp at hk;rcases hk with rfl |rfl
 ·exact h1 t w s ow
 ·exact h2 t w s ow
theorem Zm (i j m:Nat) (hr:Region.ready .any ops listed=[i,j,m]) (h1:aH W n (wpOp P ops Q i (rQ W P ops Q H0 late fuel (listed.setIfInBounds i true))) env HL)
 (h2:aH W n (wpOp P ops Q j (rQ W P ops Q H0 late fuel (listed.setIfInBounds j true))) env HL)
 (h3:aH W n (wpOp P ops Q m (rQ W P ops Q H0 late fuel (listed.setIfInBounds m true))) env HL):
 aH W n (gz P ops Q (SO W H0) late (fuel+1) listed) env HL:=by
 intro t w s ow;refine⟨λq=>(by rw[hr] at q;cases q),λk hk=>?_⟩
 rw[hr] at hk;simp at hk;rcases hk with rfl |rfl |rfl
 ·exact h1 t w s ow
 ·exact h2 t w s ow
 ·exact h3 t w s ow
theorem Zj (hr:Region.ready .any ops listed=[]) (h:aH W n (Q .normal) env HL):aH W n (gz P ops Q (SO W H0) late fuel listed) env HL:=by
 intro t w s ow
 cases fuel with
 |zero=>exact⟨hr,h t w s ow⟩
 |succ fuel=>exact⟨λ_=>h t w s ow,by rw[hr];simp⟩
end agK
end
section
variable {W : World}
variable {P : Program}
def cx {α:Type} (xs:List α) (lo n:Nat) (ys:List α):List α:=xs.take lo++(ys.take n++xs.drop (lo+n))
theorem AK {α:Type} {xs ys:List α} {lo n:Nat} (h1:lo+n<=xs.length) (h2:n<=ys.length):(cx xs lo n ys).length=xs.length:=by
 simp[cx];omega
section
variable {α : Type} {k : Fl α}
theorem aP.take {xs:List α} {a:Option Addr} {H:Hp} (h:aP k xs a H) (n:Nat):aP k (xs.take n) a H:=by
 rcases h with rfl |⟨b,off,arr,E,fr,h1,h2,h3⟩
 ·left;simp
 ·refine .inr ⟨b,off,arr,E,fr,h1,h2,λj v hj=>h3 j v ?_⟩
  have:row k xs=row k (xs.take n)++row k (xs.drop n):=by rw[<-qx,List.take_append_drop]
  rw[this,List.getElem?_append_left (List.getElem?_eq_some_iff.1 hj).1];exact hj
theorem aaz (T:Ty P) {t t' ty E:TypeId} {xs ys:List α} {a a2 da:Option Addr} {g cap cap2 dc dl lo sz by':Nat} {z:Value} {Hj:Hp} {w:World} {HL:List Hp}
 (hu:T.bW t=some (.slice E)) (hi:T.inf E=some (sz,by',z)) (hk:k.size=sz)
 (hj:HL[g]? =some Hj) (so:ak k E xs a cap Hj) (sr:aP k ys a2 HL.flatten) (v_:(da=a/\lo=0)∨da=gk a cap lo sz) (hl:lo+dl<=xs.length) (ow:bl W w HL.flatten):
 ∃H' w',(Builtin.copy_ #[t,t'] ty #[.slice da dl dc,.slice a2 ys.length cap2]).run P w= .ok (.int .i64 (min ys.length dl:Nat)) w'/\
  ak k E (cx xs lo (min ys.length dl) ys) a cap H'/\bl W w' (HL.set g H').flatten:=by
 have Ee:(Builtin.firstCells sz (min ys.length dl) (.slice a2 ys.length cap2)).run P w= .ok (row k (ys.take (min ys.length dl))).toArray w:=by
  have h1:(ys.take (min ys.length dl)).length=min ys.length dl:=by simp
  have:=KO (P:=P) (sr.take (min ys.length dl)) ow ys.length cap2;rw[h1,hk] at this;exact this
 have nT: ∀(r:Option Addr) (w':World),r=da->(match r with |some ad=>(storeCells ad (row k (ys.take (min ys.length dl)))).run P w= .ok () w' |none=>w'=w)->
  (Builtin.copy_ #[t,t'] ty #[.slice da dl dc,.slice a2 ys.length cap2]).run P w= .ok (.int .i64 (min ys.length dl:Nat)) w':=by
  intro r w' hr h;subst hr;have hm:Nat.min ys.length dl=min ys.length dl:=rfl
  cases r with
  |none=>subst h;simp[Builtin.copy_,cV hu,jZ hi,Builtin.lenOf,hm,Ee,goInt]
  |some ad=>simp[Builtin.copy_,cV hu,jZ hi,Builtin.lenOf,hm,Ee,h,goInt]
 rcases so with⟨rfl,rfl,rfl,rfl⟩ |⟨b,pre,post,rfl,rfl,h3,h4⟩
 ·have hz:lo=0/\dl=0:=by simp at hl;omega
  obtain⟨rfl,rfl⟩:=hz;have Ns:da=none:=by
   rcases v_ with⟨h,_⟩ |h
   ·exact h
   ·simpa[gk] using h
  refine⟨[],w,nT none w Ns.symm rfl,.inl ⟨rfl,by simp[cx],rfl,rfl⟩,sE hj (by simpa using vd hj ow)⟩
 ·have xN:=lG k xs;have J2:(ys.take (min ys.length dl)).length=min ys.length dl:=by simp
  have zx:=lG k (ys.take (min ys.length dl));rw[J2] at zx
  by_cases h0:min ys.length dl=0
  ·have hc:cx xs lo (min ys.length dl) ys=xs:=by rw[h0];simp[cx]
   have bI: ∃ad,da=some ad:=by
    rcases v_ with⟨h,_⟩ |h
    ·exact⟨_,h⟩
    ·unfold gk at h;split at h
     ·exact⟨_,h⟩
     ·exact⟨_,h⟩
   obtain⟨ad,MR⟩:=bI;refine⟨_,w,nT (some ad) w MR.symm ?_,by rw[hc];exact .inr ⟨b,pre,post,rfl,rfl,h3,h4⟩,sE hj (vd hj ow)⟩
   have:row k (ys.take (min ys.length dl))=[]:=by rw[h0];simp[Ba]
   rw[this];simp[storeCells]
  ·have Nr:da=some ⟨b,pre.length+lo*sz,none⟩:=by
    rcases v_ with⟨h,h'⟩ |h
    ·rw[h,h'];simp
    ·have bI:cap≠lo:=U;rw[h];simp only[gk,bI,if_false,Option.map_some,Addr.add];split
     ·rename_i h0;simp[h0]
     ·rfl
   have me:lo*sz+min ys.length dl*sz<=xs.length*sz:=by rw[<-Nat.add_mul];exact Nat.mul_le_mul_right _ U
   obtain⟨w',hr,cD⟩:=HG T b E (row k (ys.take (min ys.length dl))) w (pre++(row k xs++post)).toArray (pre.length+lo*sz) 0 (by simpa using vd hj ow)
    (by simp[xN,zx,hk];omega) (OU k _)
   refine⟨[(b,Obj.cells (pre++(row k (cx xs lo (min ys.length dl) ys)++post)).toArray E (0,0))],w',nT (some _) w' Nr.symm hr,?_,?_⟩
   ·have eH:=AK (xs:=xs) (ys:=ys) (lo:=lo) (n:=min ys.length dl) U U;exact .inr ⟨b,pre,post,rfl,rfl,by rw[eH];exact h3,by rw[eH];exact h4⟩
   ·refine sE hj ?_;rw[Nat.add_zero,HS _ _ _ (by simp[xN,zx,hk];omega)] at cD
    have e:gj (pre++(row k xs++post)) (pre.length+lo*sz) (row k (ys.take (min ys.length dl)))=pre++(row k (cx xs lo (min ys.length dl) ys)++post):=by
     have Ct:row k xs=row k (xs.take lo)++row k (xs.drop lo):=by rw[<-qx,List.take_append_drop]
     have wk:row k (xs.drop lo)=row k ((xs.drop lo).take (min ys.length dl))++row k (xs.drop (lo+min ys.length dl)):=by
      rw[<-qx,<-List.drop_drop,List.take_append_drop]
     have uY:(row k (xs.take lo)).length=lo*sz:=by rw[lG,hk];congr 1;simp;omega
     have uZ:(row k ((xs.drop lo).take (min ys.length dl))).length=min ys.length dl*sz:=by rw[lG,hk];congr 1;simp;omega
     unfold gj;rw[show pre.length+lo*sz=(pre++row k (xs.take lo)).length by simp[uY]]
     rw[show pre++(row k xs++post)=(pre++row k (xs.take lo))++(row k (xs.drop lo)++post) by rw[Ct];simp]
     rw[List.take_left',List.drop_length_add_append,wk]
     ·rw[show(row k (ys.take (min ys.length dl))).length=(row k ((xs.drop lo).take (min ys.length dl))).length by rw[zx,uZ,hk]]
      rw[show row k ((xs.drop lo).take (min ys.length dl))++row k (xs.drop (lo+min ys.length dl))++post=row k ((xs.drop lo).take (min ys.length dl))++(row k (xs.drop (lo+min ys.length dl))++post) by simp]
      rw[List.drop_left']
      ·simp[cx,qx]
      ·rfl
     ·rfl
    simpa[e] using cD
theorem Mz (n:Nat):0+n<=n:=U
theorem HT {xs:List α} {lo hi:Int} (h:0<=lo/\lo<=hi/\hi<=(xs.length:Int)):lo.toNat+(aB xs lo hi).length<=xs.length:=by
 rw[iQ h];omega
theorem l8 {xs ys:List α} {lo dl:Nat} (h:lo+dl<=xs.length):(cx xs lo (min ys.length dl) ys).length=xs.length:=AK U U
section rules
variable {T : Ty P} {n : Nat} {Q : Exit -> Act -> World -> Prop} {env : Env} {HL : List Hp} {ops : Array Oper} {i : Nat} {K : Act -> World -> Prop} {o : Oper}
theorem BW (T:Ty P) {d g lo:Nat} {s x:Operand} {t t' E:TypeId} {xs ys:List α} {a a2 da:Option Addr} {cap cap2 dc dl sz by':Nat} {z:Value} {Hj:Hp}
 (ra:slot n ops env i=some (o,d)) (aR:o.op= .call ⟨.builtin .copy,#[s,x],#[t,t']⟩)
 (hs:ev env s=some (.slice da dl dc)) (hx:ev env x=some (.slice a2 ys.length cap2)) (hu:T.bW t=some (.slice E)) (hi:T.inf E=some (sz,by',z)) (hk:k.size=sz)
 (hj:idx g HL=some Hj) (so:ak k E xs a cap Hj) (sr:aP k ys a2 HL.flatten) (v_:(da=a/\lo=0)∨da=gk a cap lo sz) (hl:lo+dl<=xs.length)
 (h: ∀H',ak k E (cx xs lo (min ys.length dl) ys) a cap H'->aH W n K ((d,.int .i64 (min ys.length dl:Nat))::env) (HL.set g H')):aH W n (wpOp P ops Q i K) env HL:=by
 obtain⟨ho,hw,hd,hn⟩:=vj ra;refine yX (β:={H':Hp // ak k E (cx xs lo (min ys.length dl) ys) a cap H'}) (V:=λ_=> .int .i64 (min ys.length dl:Nat)) (G:=λp=>(HL.set g p.1).flatten)
  ho hw hd hn (λtt w sl ow=>?_) (λp=>h _ p.2)
 obtain⟨H',w',hr,rf,cD⟩:=aaz (P:=P) T (ty:=o.type) (t':=t') (dc:=dc) (cap2:=cap2) hu hi hk (by rw[<-idx_eq];exact hj) so sr v_ hl ow
 refine⟨⟨H',rf⟩,w',?_,cD⟩;obtain⟨cs,hb⟩:=HF (P:=P) (t:=tt) w aR;rw[hb];simp only[List.map_toArray,List.map_cons,List.map_nil,bE sl hs,bE sl hx,builtin,Sem.run_bind];refine Eq.trans (congrArg (λr=>Result.andThen r _) hr) ?_;simp only[Result.andThen_ok,Sem.run_pure]
end rules
end
end
section
variable {W : World}
variable {P : Program}
def Ds (xs:List Int):ByteArray:=xs.foldl (λs n=>s.push (UInt8.ofNat n.toNat)) ByteArray.empty
def Dt (a b:List Int):Bool:=(Ds a).toList==(Ds b).toList
theorem ahY (a:List Int):Dt a a=true:=by simp[Dt]
theorem Wm (xs:List Int):row (Fl.int .u8) xs=xs.map λn=>Value.int .u8 n:=by
 induction xs with
 |nil=>rfl
 |cons x xs ih=>rw[HE,ih];rfl
theorem ag1 {xs:List Int} {a:Option Addr} {H:Hp} {w:World} (hr:aP (Fl.int .u8) xs a H) (ow:bl W w H) (cap:Nat):
 (Conv.bytesToString (.slice a xs.length cap)).run P w= .ok (.string (Ds xs)) w:=by
 have hf:=KO (P:=P) hr ow xs.length cap
 cases a with
 |none=>
  have:xs=[]:=by
   rcases hr with h |⟨b,off,arr,E,fr,h1,_⟩
   ·exact h
   ·cases h1
  subst this;simp[Conv.bytesToString,Ds]
 |some ad=>
  have hl:(loadCells ad xs.length).run P w= .ok (row (Fl.int .u8) xs).toArray w:=by
   have e:(Fl.int .u8).size=1:=rfl;simpa[Builtin.firstCells,e] using hf
  unfold Conv.bytesToString;simp only[Sem.run_bind,hl,Result.andThen_ok,Wm];rw[<-Array.forIn_toList];have key: ∀(l:List Int) (s0:ByteArray),(forIn (m:=Sem) (l.map λn=>Value.int .u8 n) s0 λc s=>
   match c with
   |Value.int .u8 n=>pure (ForInStep.yield (s.push (UInt8.ofNat n.toNat)))
   |_=>do
    stuck "bytesToString: byte expected"
    pure (ForInStep.yield s)).run P w= .ok (l.foldl (λs n=>s.push (UInt8.ofNat n.toNat)) s0) w:=by
   intro l
   induction l with
   |nil=>intro s0;simp
   |cons x l ih=>
    intro s0;simp only[List.map_cons,List.forIn_cons,Sem.run_bind,Sem.run_pure,Result.andThen_ok,List.foldl_cons];exact ih _
  have h:=key xs ByteArray.empty;refine Eq.trans (congrArg (λr=>Result.andThen r _) h) ?_;simp only[Result.andThen_ok,Sem.run_pure];rfl
section
variable {n : Nat} {env : Env} {o : Oper}
theorem RT (T:Ty P) {H:Hp} {t t' E cap:Nat} {x:Operand} {a:Option Addr} {xs:List Int} (aR:o.op= .convert t t' x) (hx:ev env x=some (.slice a xs.length cap))
 (hu:T.bW t=some (.slice E)) (jD:T.bW t'=some .string) (hE:T.bW E=some (.int .u8)) (sr:aP (Fl.int .u8) xs a H):gS W P n env H o (.string (Ds xs)):=by
 intro t1 w s ow;unfold execOp;simp only[aR,bE s hx];have:=ag1 (P:=P) sr ow cap;simp[convert,cV hu,cV jD,cV hE,this]
theorem abg {H:Hp} {t yt:TypeId} {x y:Operand} {a b:List Int} (aR:o.op= .binOp .eql t x y yt) (hx:ev env x=some (.string (Ds a))) (hy:ev env y=some (.string (Ds b))):gS W P n env H o (.bool (Dt a b)):=by
 intro t1 w s ow;unfold execOp;simp only[aR,bE s hx,bE s hy];simp[eqGuard,binOp,Op.stringOp,Dt]
end
end
end Go.Hx
