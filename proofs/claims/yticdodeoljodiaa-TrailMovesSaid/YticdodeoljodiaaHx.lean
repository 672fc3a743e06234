/- The logic of this claim: what holds of slots and blocks while a piece of Go code runs, rule by rule. -/
import Derived.WalkKit
import Derived.Deep.Quiet
import Derived.OrdersHeld
import Derived.ProofKit
import Derived.OpenShut
import Derived.ChangeOld
import Derived.Below
import Derived.ChangeSlices
import Derived.MapKept
import Derived.Maps.RangeRun
namespace Go.Hx
set_option linter.unusedVariables false
set_option linter.unusedSimpArgs false
set_option linter.unusedSectionVars false
section
variable {W : World}
abbrev Env := List (Nat × Value)
abbrev Hp := List (Nat × Obj)

/-- these blocks, each once, hold these objects -/
def Own (W w : World) (H : Hp) : Prop := (w.os = W.os ∧ w.tape = W.tape ∧ w.output = W.output) ∧ (H.map (·.1)).Nodup ∧ ∀ c ∈ H, w.heap[c.1]? = some c.2

theorem beq_ff {a b : Nat} (h : ¬ a = b) : Nat.beq a b = false := by
  cases e : Nat.beq a b
  · rfl
  · exact absurd (Nat.eq_of_beq_eq_true e) h

def lk (k : Nat) : Env → Option Value
  | [] => none
  | e :: r => bif Nat.beq k e.1 then some e.2 else lk k r

def Slots (n : Nat) (t : Array Value) (env : Env) : Prop := t.size = n ∧ ∀ k v, lk k env = some v → t[k]? = some v

/-- wherever the slots and the heap are so, F holds -/
def At (W : World) (n : Nat) (F : Act → World → Prop) (env : Env) (H : Hp) : Prop :=
  ∀ t w, Slots n t env → Own W w H → F ⟨t, []⟩ w

def ev (env : Env) : Operand → Option Value
  | .tmp k => lk k env
  | .const v => some v
  | .global g => some (.pointer (some ⟨g, 0, none⟩))
  | .func f => some (.func (.func f) #[] #[])

theorem ev_eval {n : Nat} {t : Array Value} {env : Env} {x : Operand} {v : Value} (hs : Slots n t env) (h : ev env x = some v) :
    Act.eval ⟨t, []⟩ x = v := by
  cases x with
  | tmp k => have := hs.2 k v h; simp [Act.eval, Array.getD_eq_getD_getElem?, this]
  | const c => simpa [ev, Act.eval] using h
  | global g => simpa [ev, Act.eval] using h
  | func f => simpa [ev, Act.eval] using h

theorem Slots.put {n : Nat} {t : Array Value} {env : Env} {d : Nat} {v : Value} (hs : Slots n t env) (hd : d < n) :
    Slots n (t.setIfInBounds d v) ((d, v) :: env) := by
  refine ⟨by simp [hs.1], fun k u h => ?_⟩
  simp only [lk] at h
  by_cases hk : k = d
  · subst hk
    have : Nat.beq k k = true := by simp
    rw [this] at h; simp at h
    subst h
    simp [hs.1, hd]
  · have : Nat.beq k d = false := beq_ff hk
    rw [this] at h; simp at h
    have := hs.2 k u h
    rw [Array.getElem?_setIfInBounds_ne (by omega)]
    exact this

def sub (env' env : Env) : Prop :=
  match env' with
  | [] => True
  | e :: r => lk e.1 env = some e.2 ∧ sub r env

theorem sub_lk {env : Env} : ∀ {env' : Env} {k : Nat} {v : Value}, sub env' env → lk k env' = some v → lk k env = some v
  | [], _, _, _, h => by simp [lk] at h
  | e :: r, k, v, hs, h => by
    simp only [lk] at h
    by_cases hk : k = e.1
    · subst hk
      have : Nat.beq e.1 e.1 = true := by simp
      rw [this] at h; simp at h
      rw [← h]; exact hs.1
    · have : Nat.beq k e.1 = false := beq_ff hk
      rw [this] at h; simp at h
      exact sub_lk hs.2 h

theorem Slots.sub {n : Nat} {t : Array Value} {env env' : Env} (h : sub env' env) (hs : Slots n t env) : Slots n t env' :=
  ⟨hs.1, fun k v hk => hs.2 k v (sub_lk h hk)⟩

/-! ### the heap -/
theorem Own.nodup {w : World} {H : Hp} (h : Own W w H) : (H.map (·.1)).Nodup := h.2.1

theorem Own.lookup {w : World} {H : Hp} {b : Nat} {o : Obj} (h : Own W w H) (hm : (b, o) ∈ H) : w.heap[b]? = some o := h.2.2 _ hm

theorem Own.lt {w : World} {H : Hp} {b : Nat} {o : Obj} (h : Own W w H) (hm : (b, o) ∈ H) : b < w.heap.size := by
  have := h.lookup hm
  exact (Array.getElem?_eq_some_iff.1 this).1

theorem Own.perm {w : World} {H H' : Hp} (h : Own W w H) (hp : H.Perm H') : Own W w H' :=
  ⟨h.1, (hp.map _).nodup_iff.1 h.2.1, fun c hc => h.2.2 c (hp.mem_iff.2 hc)⟩

theorem Own.sub {w : World} {H H' : Hp} (h : Own W w H) (hp : H'.Sublist H) : Own W w H' :=
  ⟨h.1, h.2.1.sublist (hp.map _), fun c hc => h.2.2 c (hp.subset hc)⟩

theorem Own.left {w : World} {A B : Hp} (h : Own W w (A ++ B)) : Own W w A := h.sub (List.sublist_append_left _ _)
theorem Own.right {w : World} {A B : Hp} (h : Own W w (A ++ B)) : Own W w B := h.sub (List.sublist_append_right _ _)

theorem Own.drew {w : World} {H : Hp} (h : Own W w H) : Own W w.drew H := h

theorem Own.alloc {w : World} {H : Hp} (o : Obj) (h : Own W w H) : Own W (w.alloc o) ((w.heap.size, o) :: H) := by
  refine ⟨h.1, ?_, ?_⟩
  · simp only [List.map_cons, List.nodup_cons]
    refine ⟨?_, h.2.1⟩
    intro hm
    obtain ⟨c, hc, he⟩ := List.mem_map.1 hm
    have := h.lt (b := c.1) (o := c.2) hc
    omega
  · intro c hc
    rcases List.mem_cons.1 hc with rfl | hc
    · show (w.heap.push o)[w.heap.size]? = some o
      simp
    · have hl := h.lt (b := c.1) (o := c.2) hc
      have := h.2.2 c hc
      show (w.heap.push o)[c.1]? = some c.2
      rw [Array.getElem?_push]
      have : ¬ c.1 = w.heap.size := by omega
      simp [this, h.2.2 c hc]

/-- the head block is turned into another object -/
theorem Own.turn {w w' : World} {H : Hp} {b : Nat} {o o' : Obj} (h : Own W w ((b, o) :: H)) (e : w'.heap = w.heap.setIfInBounds b o') (e1 : w'.os = w.os) (e2 : w'.tape = w.tape) (e3 : w'.output = w.output) :
    Own W w' ((b, o') :: H) := by
  have hl := h.lt (b := b) (o := o) (by simp)
  refine ⟨⟨e1.trans h.1.1, e2.trans h.1.2.1, e3.trans h.1.2.2⟩, by simpa using h.2.1, ?_⟩
  intro c hc
  rcases List.mem_cons.1 hc with rfl | hc
  · rw [e]; simp [hl]
  · rw [e]
    have hne : c.1 ≠ b := by
      intro he
      have hn := h.2.1
      simp only [List.map_cons, List.nodup_cons] at hn
      exact hn.1 (List.mem_map.2 ⟨c, hc, he⟩)
    rw [Array.getElem?_setIfInBounds_ne (by omega)]
    exact h.2.2 c (List.mem_cons_of_mem _ hc)

theorem Own.cell {w : World} {H : Hp} {b : Nat} {c : Array Value} {T : TypeId} {fr : Nat × Nat} {off : Nat} {v : Value} (h : Own W w H)
    (hm : (b, Obj.cells c T fr) ∈ H) (hv : c[off]? = some v) : w.cell? ⟨b, off, none⟩ = some v := by
  have := h.lookup hm
  simp [World.cell?, this, hv]

theorem Own.unfrozen {w : World} {H : Hp} {b : Nat} {c : Array Value} {T : TypeId} {off : Nat} (h : Own W w H)
    (hm : (b, Obj.cells c T (0, 0)) ∈ H) : w.frozen? ⟨b, off, none⟩ = false := by
  have := h.lookup hm
  simp [World.frozen?, this]

theorem setCell_heap {w : World} {b off : Nat} {c : Array Value} {T : TypeId} {fr : Nat × Nat} {v : Value} (h : w.heap[b]? = some (.cells c T fr)) :
    (w.setCell ⟨b, off, none⟩ v).heap = w.heap.setIfInBounds b (.cells (c.setIfInBounds off v) T fr) := by
  obtain ⟨hl, he⟩ := Array.getElem?_eq_some_iff.1 h
  simp only [World.setCell]
  apply Array.ext_getElem?
  intro i
  rw [Array.getElem?_modify]
  by_cases hi : b = i
  · subst hi
    simp [hl]; rw [he]
  · simp [Array.getElem?_setIfInBounds_ne hi, hi]

theorem Own.setCell {w : World} {H : Hp} {b off : Nat} {c : Array Value} {T : TypeId} {v : Value} (h : Own W w ((b, .cells c T (0, 0)) :: H)) :
    Own W (w.setCell ⟨b, off, none⟩ v) ((b, .cells (c.setIfInBounds off v) T (0, 0)) :: H) :=
  h.turn (setCell_heap (h.lookup (by simp))) rfl rfl rfl
end

section
variable {W : World}
section rules
variable {P : Program} {n : Nat} {Q : Exit → Act → World → Prop} {env : Env} {H : Hp}

theorem At.mono {F G : Act → World → Prop} (h : At W n F env H) (hf : ∀ a w, F a w → G a w) : At W n G env H :=
  fun t w hs ho => hf _ _ (h t w hs ho)

/-- forget slots -/
theorem at_sub {F : Act → World → Prop} (env' : Env) (hs : sub env' env) (h : At W n F env' H) : At W n F env H :=
  fun t w s o => h t w (s.sub hs) o

/-- forget, or order anew, blocks -/
theorem at_heap {F : Act → World → Prop} {H' : Hp} (hh : ∀ w, Own W w H → Own W w H') (h : At W n F env H') : At W n F env H :=
  fun t w s o => h t w s (hh w o)

theorem at_perm {F : Act → World → Prop} {H' : Hp} (hh : H.Perm H') (h : At W n F env H') : At W n F env H :=
  at_heap (fun _ o => o.perm hh) h

theorem at_skip (h : At W n (Q .normal) env H) : At W n (Code.skip.wp P Q) env H := fun t w s o => wp_skip (h t w s o)
theorem at_ret (h : At W n (Q .ret) env H) : At W n (Code.ret.wp P Q) env H := fun t w s o => wp_ret (h t w s o)
theorem at_exit {id : Nat} (h : At W n (Q (.exit id)) env H) : At W n ((Code.exit id).wp P Q) env H := fun t w s o => wp_exit (h t w s o)
theorem at_seq {x y : Code} (h : At W n (x.wp P (Exit.then (y.wp P Q) Q)) env H) : At W n ((Code.seq x y).wp P Q) env H :=
  fun t w s o => wp_seq (h t w s o)
theorem at_block {id : Nat} {c : Code} (h : At W n (c.wp P (Exit.inBlock id Q)) env H) : At W n ((Code.block id c).wp P Q) env H :=
  fun t w s o => wp_block (h t w s o)
theorem at_cond {c : Operand} {x y : Code} {b : Bool} (hc : ev env c = some (.bool b)) (ht : b = true → At W n (x.wp P Q) env H)
    (hf : b = false → At W n (y.wp P Q) env H) : At W n ((Code.cond c x y).wp P Q) env H := fun t w s o => by
  refine wp_cond (t := b) (ev_eval s hc) ?_
  cases b
  · exact hf rfl t w s o
  · exact ht rfl t w s o
theorem at_cond_t {c : Operand} {x y : Code} (hc : ev env c = some (.bool true)) (h : At W n (x.wp P Q) env H) : At W n ((Code.cond c x y).wp P Q) env H :=
  at_cond hc (fun _ => h) (fun e => by cases e)
theorem at_cond_f {c : Operand} {x y : Code} (hc : ev env c = some (.bool false)) (h : At W n (y.wp P Q) env H) : At W n ((Code.cond c x y).wp P Q) env H :=
  at_cond hc (fun e => by cases e) (fun _ => h)

/-- the way out of a piece, made bare -/
theorem at_then {K : Act → World → Prop} (h : At W n K env H) : At W n (Exit.then K Q .normal) env H := h
theorem at_cut {F : Act → World → Prop} {env' : Env} {H' : Hp} (hs : sub env' env) (hh : ∀ w, Own W w H → Own W w H') (h : At W n F env' H') : At W n F env H :=
  fun t w s o => h t w (s.sub hs) (hh w o)

/-- where a round ends: in a state that is less -/
def Round {σ : Type} (W : World) (n : Nat) (I : σ → Prop) (E : σ → Env) (G : σ → Hp) (m : σ → Nat) (s : σ) : Act → World → Prop := fun a w =>
  ∃ s', I s' ∧ m s' < m s ∧ ∃ t, a = ⟨t, []⟩ ∧ Slots n t (E s') ∧ Own W w (G s')

theorem at_round {σ : Type} {I : σ → Prop} {E : σ → Env} {G : σ → Hp} {m : σ → Nat} {s : σ} (s' : σ) (hi : I s') (hm : m s' < m s) (hs : sub (E s') env)
    (hh : ∀ w, Own W w H → Own W w (G s')) : At W n (Round W n I E G m s) env H :=
  fun t w sl o => ⟨s', hi, hm, t, rfl, sl.sub hs, hh w o⟩

/-- a loop: states, each with its slots and blocks; a measure -/
theorem at_loop {c : Code} {σ : Type} (I : σ → Prop) (E : σ → Env) (G : σ → Hp) (m : σ → Nat) (s0 : σ) (hi : I s0) (hs : sub (E s0) env)
    (hh : ∀ w, Own W w H → Own W w (G s0)) (round : ∀ s, I s → At W n (c.wp P (Exit.then (Round W n I E G m s) Q)) (E s) (G s)) :
    At W n ((Code.loop c).wp P Q) env H := by
  intro t w sl o b k cs
  have key : ∀ j s, I s → m s = j → ∀ t w, Slots n t (E s) → Own W w (G s) →
      ∃ e a' w', Q e a' w' ∧ Arrives P (lone (b.at ⟨t, []⟩ (.code c :: .inLoop c :: k)) cs w) b k cs e a' w' := by
    intro j
    induction j using Nat.strongRecOn with
    | _ j ih =>
      intro s hI hj t w sl o
      obtain ⟨e, a₁, w₁, hq, harr⟩ := round s hI t w sl o b (.inLoop c :: k) cs
      cases e with
      | normal =>
        obtain ⟨s', hI', hlt, t', rfl, sl', o'⟩ := hq
        obtain ⟨e₂, a₂, w₂, hq₂, harr₂⟩ := ih (m s') (hj ▸ hlt) s' hI' rfl t' w₁ sl' o'
        exact ⟨e₂, a₂, w₂, hq₂, .of_steps (Steps.trans harr (.one step_inLoop)) harr₂⟩
      | exit id => exact ⟨_, a₁, w₁, hq, .pass (x := .inLoop c) rfl (fun _ _ => .inl (by simp)) harr⟩
      | goto l => exact ⟨_, a₁, w₁, hq, .pass (x := .inLoop c) rfl (fun _ _ => .inl (by simp)) harr⟩
      | ret => exact ⟨_, a₁, w₁, hq, .pass (x := .inLoop c) rfl (fun _ _ => .inl (by simp)) harr⟩
      | panic ch => exact ⟨_, a₁, w₁, hq, .pass (x := .inLoop c) rfl (fun _ _ => .inl (by simp)) harr⟩
      | outgrown => exact ⟨_, a₁, w₁, hq, .pass (x := .inLoop c) rfl (fun _ _ => .inl (by simp)) harr⟩
  obtain ⟨e, a', w', hq, harr⟩ := key _ s0 hi rfl t w (sl.sub hs) (hh w o)
  exact ⟨e, a', w', hq, .of_steps (.one step_loop) harr⟩

/-! ### regions -/
variable {ops : Array Oper} {i : Nat} {K : Act → World → Prop} {o : Oper}

theorem at_region {id : Nat} (l : List Nat) (hl : List.range ops.size = l) (h : At W n (wpOps P ops Q l) env H) : At W n ((Code.region id ops false).wp P Q) env H :=
  fun t w s ow => wp_region (hl ▸ h t w s ow)

theorem at_end (h : At W n (Q .normal) env H) : At W n (wpOps P ops Q []) env H := h

theorem at_cons {rest : List Nat} (h : At W n (wpOp P ops Q i (wpOps P ops Q rest)) env H) : At W n (wpOps P ops Q (i :: rest)) env H :=
  fun t w s ow => by rw [wpOps_cons]; exact h t w s ow

/-- is the operation wanted, as far as the slots tell -/
def want (ops : Array Oper) (env : Env) (o : Oper) : Option Bool :=
  match o.guard with
  | none => some true
  | some (j, b) =>
    match (ops[j]?).bind (·.dst) with
    | none => none
    | some s => match lk s env with
      | some (.bool c) => some (c == b)
      | some _ => some false
      | none => none

theorem want_wanted {t : Array Value} {b : Bool} (s : Slots n t env) (h : want ops env o = some b) : Region.wanted o (yielded ops t) = b := by
  unfold want at h
  unfold Region.wanted
  cases hg : o.guard with
  | none => simp [hg] at h; simp [h]
  | some jb =>
    obtain ⟨j, c⟩ := jb
    simp only [hg] at h ⊢
    cases hd : (ops[j]?).bind (·.dst) with
    | none => simp [hd] at h
    | some d =>
      simp only [hd] at h
      cases hl : lk d env with
      | none => simp [hl] at h
      | some v =>
        simp only [hl] at h
        have hs := s.2 d _ hl
        cases v
        case bool x =>
          have hy : yielded ops t j = some x := by
            unfold yielded
            rw [hd]; simp [hs]
          have h : some (x == c) = some b := h
          injection h with h
          rw [hy, ← h]
          cases x <;> cases c <;> rfl
        all_goals
          have hy : yielded ops t j = none := by
            unfold yielded
            rw [hd]; simp [hs]
          have h : some false = some b := h
          injection h with h
          rw [hy, ← h]
          cases c <;> rfl

/-- an operation that its guard does not want -/
theorem at_no {d : Nat} (ho : ops[i]? = some o) (hw : want ops env o = some false) (hd : o.dst = some d) (hn : d < n)
    (h : At W n K ((d, undef) :: env) H) : At W n (wpOp P ops Q i K) env H := by
  intro t w s ow
  have := h _ w (s.put (v := undef) hn) ow
  unfold wpOp
  simp only [ho, want_wanted s hw]
  simpa [Act.put, hd] using this
theorem at_no_none (ho : ops[i]? = some o) (hw : want ops env o = some false) (hd : o.dst = none)
    (h : At W n K env H) : At W n (wpOp P ops Q i K) env H := by
  intro t w s ow
  have := h _ w s ow
  unfold wpOp
  simp only [ho, want_wanted s hw]
  simpa [Act.put, hd] using this

/-- an operation that goes well -/
theorem at_op (ho : ops[i]? = some o) (hw : want ops env o = some true)
    (h : At W n (fun a w => o.upon P a K Q ((execOp a.eval o).run P w)) env H) : At W n (wpOp P ops Q i K) env H := by
  intro t w s ow
  have := h t w s ow
  unfold wpOp
  simp only [ho, want_wanted s hw, if_true]
  exact .inl this

/-- ... with a value, the world as it is -/
theorem at_val {d : Nat} {v : Value} (ho : ops[i]? = some o) (hw : want ops env o = some true) (hd : o.dst = some d) (hn : d < n)
    (hv : ∀ t w, Slots n t env → Own W w H → (execOp (Act.eval ⟨t, []⟩) o).run P w = .ok (.value v) w)
    (h : At W n K ((d, v) :: env) H) : At W n (wpOp P ops Q i K) env H := by
  refine at_op ho hw fun t w s ow => ?_
  show o.upon P ⟨t, []⟩ K Q ((execOp (Act.eval ⟨t, []⟩) o).run P w)
  rw [hv t w s ow, Oper.upon_value]
  have := h _ w (s.put (v := v) hn) ow
  simpa [Act.put, hd] using this

/-- ... with a value, and another world -/
theorem at_val_w {d : Nat} {β : Type} {V : β → Value} {G : β → Hp} (ho : ops[i]? = some o) (hw : want ops env o = some true) (hd : o.dst = some d) (hn : d < n)
    (hv : ∀ t w, Slots n t env → Own W w H → ∃ b w', (execOp (Act.eval ⟨t, []⟩) o).run P w = .ok (.value (V b)) w' ∧ Own W w' (G b))
    (h : ∀ b, At W n K ((d, V b) :: env) (G b)) : At W n (wpOp P ops Q i K) env H := by
  refine at_op ho hw fun t w s ow => ?_
  show o.upon P ⟨t, []⟩ K Q ((execOp (Act.eval ⟨t, []⟩) o).run P w)
  obtain ⟨b, w', hr, ow'⟩ := hv t w s ow
  rw [hr, Oper.upon_value]
  have := h b _ w' (s.put (v := V b) hn) ow'
  simpa [Act.put, hd] using this

/-- ... without a slot -/
theorem at_unit_w {β : Type} {G : β → Hp} (ho : ops[i]? = some o) (hw : want ops env o = some true) (hd : o.dst = none)
    (hv : ∀ t w, Slots n t env → Own W w H → ∃ b w', ((execOp (Act.eval ⟨t, []⟩) o).run P w = .ok .skip w' ∨ ∃ v, (execOp (Act.eval ⟨t, []⟩) o).run P w = .ok (.value v) w') ∧ Own W w' (G b))
    (h : ∀ b, At W n K env (G b)) : At W n (wpOp P ops Q i K) env H := by
  refine at_op ho hw fun t w s ow => ?_
  show o.upon P ⟨t, []⟩ K Q ((execOp (Act.eval ⟨t, []⟩) o).run P w)
  obtain ⟨b, w', hr, ow'⟩ := hv t w s ow
  have := h b _ w' s ow'
  rcases hr with hr | ⟨v, hr⟩
  · rw [hr, Oper.upon_skip]; simpa [Act.put, hd] using this
  · rw [hr, Oper.upon_value]; simpa [Act.put, hd] using this

/-- ... a call -/
theorem at_call {d : Nat} {f : FuncId} {args : Array Value} {β : Type} {V : β → Value} {G : β → Hp} (ho : ops[i]? = some o) (hw : want ops env o = some true) (hd : o.dst = some d) (hn : d < n)
    (hv : ∀ t w, Slots n t env → Own W w H → (execOp (Act.eval ⟨t, []⟩) o).run P w = .ok (.enter f args) w)
    (hc : ∀ w, Own W w H → Calls P f args w fun e w' => ∃ b, e = .returned (V b) ∧ Own W w' (G b))
    (h : ∀ b, At W n K ((d, V b) :: env) (G b)) : At W n (wpOp P ops Q i K) env H := by
  refine at_op ho hw fun t w s ow => ?_
  show o.upon P ⟨t, []⟩ K Q ((execOp (Act.eval ⟨t, []⟩) o).run P w)
  rw [hv t w s ow, Oper.upon_enter]
  refine (hc w ow).mono fun e w' ⟨b, he, ow'⟩ => ?_
  subst he
  have := h b _ w' (s.put (v := V b) hn) ow'
  simpa [Act.put, hd] using this
theorem at_call_none {f : FuncId} {args : Array Value} {β : Type} {V : β → Value} {G : β → Hp} (ho : ops[i]? = some o) (hw : want ops env o = some true) (hd : o.dst = none)
    (hv : ∀ t w, Slots n t env → Own W w H → (execOp (Act.eval ⟨t, []⟩) o).run P w = .ok (.enter f args) w)
    (hc : ∀ w, Own W w H → Calls P f args w fun e w' => ∃ b, e = .returned (V b) ∧ Own W w' (G b))
    (h : ∀ b, At W n K env (G b)) : At W n (wpOp P ops Q i K) env H := by
  refine at_op ho hw fun t w s ow => ?_
  show o.upon P ⟨t, []⟩ K Q ((execOp (Act.eval ⟨t, []⟩) o).run P w)
  rw [hv t w s ow, Oper.upon_enter]
  refine (hc w ow).mono fun e w' ⟨b, he, ow'⟩ => ?_
  subst he
  have := h b _ w' s ow'
  simpa [Act.put, hd] using this
end rules

/-- a function's body -/
theorem calls_at {P : Program} {f : FuncId} {fn : Func} {c : Code} {args : Array Value} {R : Ending → World → Prop} {H : Hp} (env : Env)
    (hf : P.funcs[f]? = some fn) (hb : fn.body = some c) (hn : args.size ≤ fn.ntmps) (hs : sub env ((args.toList.zipIdx).map fun x => (x.2, x.1)))
    (h : At W fn.ntmps (c.wp P (bodyPost P fn R)) env H) (w : World) (ow : Own W w H) : Calls P f args w R := by
  refine calls_of_wp hf hb (h _ w ?_ ow)
  refine Slots.sub hs ⟨by simp; omega, fun k v hk => ?_⟩
  have : ∀ (l : List Value) (m : Nat) (k : Nat) (v : Value), lk k ((l.zipIdx m).map fun x => (x.2, x.1)) = some v → m ≤ k ∧ l[k - m]? = some v := by
    intro l
    induction l with
    | nil => intro m k v h; simp [lk] at h
    | cons a l ih =>
      intro m k v h
      simp only [List.zipIdx_cons, List.map_cons, lk] at h
      by_cases hk : k = m
      · subst hk
        have : Nat.beq k k = true := by simp
        rw [this] at h
        simpa using h
      · rw [beq_ff hk] at h
        simp only [cond_false] at h
        obtain ⟨h1, h2⟩ := ih (m + 1) k v h
        refine ⟨by omega, ?_⟩
        have : k - m = (k - (m + 1)) + 1 := by omega
        rw [this]; simpa using h2
  obtain ⟨_, h2⟩ := this args.toList 0 k v hk
  have h3 : args[k]? = some v := by simpa using h2
  have hl := (Array.getElem?_eq_some_iff.1 h3).1
  rw [Array.getElem?_append]; simp [hl]; exact (Array.getElem?_eq_some_iff.1 h3).2
end

section
variable {W : World}
/-- what a program's types are, as far as a text needs it -/
structure Ty (P : Program) where
  und : TypeId → Option TypeDesc
  inf : TypeId → Option (Nat × Nat × Value)
  hund : ∀ t d, und t = some d → P.underlying t = some d
  hinf : ∀ t s b z, inf t = some (s, b, z) → ∃ i, P.info? t = some i ∧ i.size = s ∧ i.bytes = b ∧ i.zero = some z

variable {P : Program}

theorem run_und {T : Ty P} {t : TypeId} {d : TypeDesc} (h : T.und t = some d) (w : World) : (underlying t).run P w = .ok d w :=
  run_underlying (T.hund t d h) w
theorem run_size {T : Ty P} {t : TypeId} {s b : Nat} {z : Value} (h : T.inf t = some (s, b, z)) (w : World) : (sizeOf t).run P w = .ok s w := by
  obtain ⟨i, hi, rfl, rfl, _⟩ := T.hinf t s b z h
  simp [sizeOf, typeInfo, hi]
theorem run_info {T : Ty P} {t : TypeId} {s b : Nat} {z : Value} (h : T.inf t = some (s, b, z)) (w : World) :
    ∃ i, (typeInfo t).run P w = .ok i w ∧ i.size = s ∧ i.bytes = b ∧ i.zero = some z := by
  obtain ⟨i, hi, h1⟩ := T.hinf t s b z h
  exact ⟨i, by simp [typeInfo, hi], h1⟩
theorem run_zero {T : Ty P} {t : TypeId} {s b : Nat} {z : Value} (h : T.inf t = some (s, b, z)) (w : World) : (zeroValue t).run P w = .ok z w := by
  obtain ⟨i, hi, rfl, rfl, hz⟩ := T.hinf t s b z h
  simp [zeroValue, typeInfo, hi, hz]

def intBin (op : BinOp) (k : IntKind) (a b : Int) : Option Value :=
  match op with
  | .add => some (.int k (k.wrap (a + b)))
  | .sub => some (.int k (k.wrap (a - b)))
  | .mul => some (.int k (k.wrap (a * b)))
  | .eql => some (.bool (a == b))
  | .neq => some (.bool (a != b))
  | .lss => some (.bool (decide (a < b)))
  | .leq => some (.bool (decide (a ≤ b)))
  | .gtr => some (.bool (decide (a > b)))
  | .geq => some (.bool (decide (a ≥ b)))
  | .and => some (.int k (k.wrap (BitVec.ofInt k.bits a &&& BitVec.ofInt k.bits b).toNat))
  | .or => some (.int k (k.wrap (BitVec.ofInt k.bits a ||| BitVec.ofInt k.bits b).toNat))
  | .xor => some (.int k (k.wrap (BitVec.ofInt k.bits a ^^^ BitVec.ofInt k.bits b).toNat))
  | _ => none

def ikeq : IntKind → IntKind → Bool
  | .i8, .i8 | .i16, .i16 | .i32, .i32 | .i64, .i64 | .u8, .u8 | .u16, .u16 | .u32, .u32 | .u64, .u64 => true
  | _, _ => false
theorem ikeq_eq {a b : IntKind} (h : ikeq a b = true) : a = b := by cases a <;> cases b <;> first | rfl | cases h

def isEq : BinOp → Bool
  | .eql | .neq => true
  | _ => false

/-- plain operations, by their operands' values -/
def binVal (T : Ty P) (op : BinOp) (t : TypeId) : Value → Value → Option Value
  | .int k a, .int k' b => match op with
    | .shl => match b with
      | .ofNat m => some (.int k (k.wrap (a * 2 ^ (min m k.bits))))
      | _ => none
    | .shr => match b with
      | .ofNat m => some (.int k (a.fdiv (2 ^ (min m k.bits))))
      | _ => none
    | .quo => match b with
      | .ofNat (m + 1) => bif ikeq k k' then some (.int k (k.wrap (a.tdiv (.ofNat (m + 1))))) else none
      | _ => none
    | .rem => match b with
      | .ofNat (m + 1) => bif ikeq k k' then some (.int k (a.tmod (.ofNat (m + 1)))) else none
      | _ => none
    | _ => bif ikeq k k' then intBin op k a b else none
  | .bool a, .bool b => match T.und t, op with
    | some .bool, .eql => some (.bool (a == b))
    | some .bool, .neq => some (.bool (!(a == b)))
    | _, _ => none
  | .pointer a, .pointer none => match T.und t, op with
    | some (.pointer _), .eql => some (.bool a.isNone)
    | some (.pointer _), .neq => some (.bool (!a.isNone))
    | _, _ => none
  | .slice a _ _, .slice none _ _ => match T.und t, op with
    | some (.slice _), .eql => some (.bool a.isNone)
    | some (.slice _), .neq => some (.bool (!a.isNone))
    | _, _ => none
  | .string a, .string b => match op with
    | .eql => some (.bool (a.toList == b.toList))
    | .neq => some (.bool (!(a.toList == b.toList)))
    | _ => none
  | _, _ => none

theorem ite_both {α : Type} {c : Prop} [Decidable c] {a b r : α} (h1 : c → a = r) (h2 : ¬ c → b = r) : (if c then a else b) = r := by
  split
  · exact h1 ‹_›
  · exact h2 ‹_›

theorem forced_no {w : World} {op : BinOp} {t : TypeId} {x y : Operand} {a b : Value} (h : ∀ u v, ¬ (a = .agg u ∧ b = .agg v)) (h2 : a ≠ .nilIface) :
    (eqGuard op t x y a b).run P w = .ok () w := by
  unfold eqGuard
  rw [Sem.run_ite]
  refine ite_both (fun _ => rfl) (fun _ => ?_)
  cases a <;> cases b <;> first | rfl | (exact absurd rfl h2) | exact absurd ⟨rfl, rfl⟩ (h _ _)

section eqs
variable {T : Ty P} {t : TypeId} (w : World)
theorem eq_bool (hu : T.und t = some .bool) (a b : Bool) : (Op.equal t (.bool a) (.bool b)).run P w = .ok (a == b) w := by
  show (Op.equalIn (9999 + 1) t _ _).run P w = _
  generalize 9999 = d
  simp only [Op.equalIn, Sem.run_bind, run_und hu, Result.andThen_ok, Sem.run_pure]
theorem eq_ptr {e : TypeId} (hu : T.und t = some (.pointer e)) (a : Option Addr) : (Op.equal t (.pointer a) (.pointer none)).run P w = .ok a.isNone w := by
  show (Op.equalIn (9999 + 1) t _ _).run P w = _
  generalize 9999 = d
  cases a <;> simp only [Op.equalIn, Sem.run_bind, run_und hu, Result.andThen_ok, Sem.run_pure, Option.isNone]
theorem eq_slice {e : TypeId} (hu : T.und t = some (.slice e)) (a : Option Addr) (n c n' c' : Nat) : (Op.equal t (.slice a n c) (.slice none n' c')).run P w = .ok a.isNone w := by
  show (Op.equalIn (9999 + 1) t _ _).run P w = _
  generalize 9999 = d
  cases a <;> simp only [Op.equalIn, Sem.run_bind, run_und hu, Result.andThen_ok, Sem.run_pure, Option.isNone]
end eqs

theorem binVal_run {T : Ty P} {op : BinOp} {t : TypeId} {x y : Operand} {a b v : Value} (h : binVal T op t a b = some v) (w : World) :
    (do eqGuard op t x y a b; binOp op t a b).run P w = .ok v w := by
  have hg : (eqGuard op t x y a b).run P w = .ok () w := by
    apply forced_no
    · rintro u v ⟨rfl, rfl⟩; simp [binVal] at h
    · rintro rfl; simp [binVal] at h
  rw [Sem.run_bind, hg, Result.andThen_ok]
  unfold binVal at h
  split at h
  · rename_i k a k' b
    split at h
    · split at h
      · rename_i m
        simp at h; subst h
        have : ¬ ((m : Int) < 0) := by omega
        simp [binOp, Op.shift, this]
      · cases h
    · split at h
      · rename_i m
        simp at h; subst h
        have : ¬ ((m : Int) < 0) := by omega
        simp [binOp, Op.shift, this]
      · cases h
    · split at h
      · rename_i m
        cases hk : ikeq k k' <;> simp [hk] at h
        obtain rfl := ikeq_eq hk
        subst h
        have : ¬ ((m : Int) + 1 = 0) := by omega
        simp [binOp, Op.intDiv, this]
      · cases h
    · split at h
      · rename_i m
        cases hk : ikeq k k' <;> simp [hk] at h
        obtain rfl := ikeq_eq hk
        subst h
        have : ¬ ((m : Int) + 1 = 0) := by omega
        simp [binOp, Op.intDiv, this]
      · cases h
    · cases hk : ikeq k k' <;> simp [hk] at h
      obtain rfl := ikeq_eq hk
      cases op <;> simp [intBin] at h <;> subst h <;> simp [binOp, Op.intArith, Op.intCmp, Op.intBits]
  · split at h
    · rename_i hu; simp at h; subst h; simp only [binOp, Sem.run_bind, eq_bool w hu, Result.andThen_ok, Sem.run_pure]
    · rename_i hu; simp at h; subst h; simp only [binOp, Sem.run_bind, eq_bool w hu, Result.andThen_ok, Sem.run_pure]
    · cases h
  · split at h
    · rename_i hu; rw [Option.some.injEq] at h; subst h; simp only [binOp, Sem.run_bind, eq_ptr w hu, Result.andThen_ok, Sem.run_pure]
    · rename_i hu; rw [Option.some.injEq] at h; subst h; simp only [binOp, Sem.run_bind, eq_ptr w hu, Result.andThen_ok, Sem.run_pure]
    · cases h
  · split at h
    · rename_i hu; rw [Option.some.injEq] at h; subst h; simp only [binOp, Sem.run_bind, eq_slice w hu, Result.andThen_ok, Sem.run_pure]
    · rename_i hu; rw [Option.some.injEq] at h; subst h; simp only [binOp, Sem.run_bind, eq_slice w hu, Result.andThen_ok, Sem.run_pure]
    · cases h
  · split at h <;> simp at h <;> subst h <;> simp [binOp, Op.stringOp]
  · cases h
end

section
variable {W : World}
variable {P : Program}

/-! ### structs out of their parts -/
def cellsL : Value → List Value
  | .agg cs => cs.toList
  | v => [v]
theorem cellsL_eq (v : Value) : v.cells.toList = cellsL v := by cases v <;> rfl

def splice (cs : List Value) (off : Nat) (vs : List Value) : List Value := cs.take off ++ (vs ++ cs.drop (off + vs.length))

def fillL (place : Nat → Option (Nat × Nat)) (cells : List Value) : List (Nat × Value) → Option (List Value)
  | [] => some cells
  | (i, v) :: rest =>
    match place i with
    | none => none
    | some (off, size) =>
      bif Nat.beq (cellsL v).length size && Nat.ble (off + (cellsL v).length) cells.length then fillL place (splice cells off (cellsL v)) rest else none

theorem foldl_splice (vs : List Value) : ∀ (cs : List Value) (off m : Nat), off + m + vs.length ≤ cs.length →
    (vs.zipIdx m).foldl (fun (a : List Value) (x : Value × Nat) => a.set (off + x.2) x.1) cs = splice cs (off + m) vs := by
  induction vs with
  | nil => intro cs off m h; simp [splice]
  | cons v vs ih =>
    intro cs off m h
    simp only [List.length_cons] at h
    simp only [List.zipIdx_cons, List.foldl_cons]
    have := ih (cs.set (off + m) v) off (m + 1) (by simp; omega)
    rw [this]
    unfold splice
    rw [List.set_eq_take_append_cons_drop]
    have hl : off + m < cs.length := by omega
    simp only [hl, if_true]
    have h1 : (List.take (off + m) cs).length = off + m := by simp; omega
    have h2 : off + (m + 1) = (List.take (off + m) cs).length + 1 := by omega
    rw [h2, List.take_append, List.drop_append]
    simp [h1, List.take_of_length_le]
    congr 2
    · rw [show off + m + 1 + vs.length - (off + m) = vs.length + 1 by omega]
      simp [List.drop_drop]
      have : List.drop (off + m + 1 + vs.length) (List.take (off + m) cs) = [] := by
        apply List.drop_eq_nil_of_le; simp; omega
      simp [this]
      congr 1
      omega

theorem fill_toList (place : Nat → Option (Nat × Nat)) (parts : List (Nat × Value)) : ∀ (cells : Array Value) (out : List Value),
    fillL place cells.toList parts = some out → Instr.fill place cells parts = some out.toArray := by
  induction parts with
  | nil => intro cells out h; simp [fillL] at h; subst h; simp [Instr.fill]
  | cons p rest ih =>
    intro cells out h
    obtain ⟨i, v⟩ := p
    simp only [fillL] at h
    simp only [Instr.fill]
    cases hp : place i with
    | none => simp [hp] at h
    | some os =>
      obtain ⟨off, size⟩ := os
      simp only [hp] at h ⊢
      cases hb : (Nat.beq (cellsL v).length size && Nat.ble (off + (cellsL v).length) cells.toList.length) with
      | false => rw [hb] at h; cases h
      | true =>
        simp only [hb, cond_true] at h
        simp only [Bool.and_eq_true] at hb
        have e1 := Nat.eq_of_beq_eq_true hb.1
        have e2 := Nat.le_of_ble_eq_true hb.2
        have e3 : v.cells.size = (cellsL v).length := by rw [← cellsL_eq]; simp
        have e4 : ¬ (v.cells.size ≠ size ∨ off + v.cells.size > cells.size) := by
          rw [e3]; simp at e2; omega
        have e5 : (decide (v.cells.size ≠ size) || decide (off + v.cells.size > cells.size)) = false := by
          simpa using e4
        have e6 : (v.cells.zipIdx.foldl (fun cs (c, j) => cs.setIfInBounds (off + j) c) cells) = (splice cells.toList off (cellsL v)).toArray := by
          have hf := foldl_splice (cellsL v) cells.toList off 0 (by simpa using e2)
          have key : ∀ (l : List (Value × Nat)) (a : Array Value), (l.foldl (fun cs (x : Value × Nat) => cs.setIfInBounds (off + x.2) x.1) a).toList = l.foldl (fun (a : List Value) (x : Value × Nat) => a.set (off + x.2) x.1) a.toList := by
            intro l
            induction l with
            | nil => intro a; rfl
            | cons x l ih => intro a; simp only [List.foldl_cons]; rw [ih]; simp
          apply Array.ext'
          rw [← Array.foldl_toList]
          rw [key]
          rw [Array.toList_zipIdx, cellsL_eq]
          simpa using hf
        have := ih ((splice cells.toList off (cellsL v)).toArray) out (by simpa using h)
        rw [if_neg (by simpa using e4)]
        rw [e6]; exact this
end

section
variable {W : World}
variable {P : Program}

def placesL (T : Ty P) : List Field → Option (List (Nat × Nat))
  | [] => some []
  | f :: r => match T.inf f.type, placesL T r with
    | some (s, _, _), some l => some ((f.offset, s) :: l)
    | _, _ => none

theorem run_places {T : Ty P} (w : World) : ∀ (fs : List Field) (l : List (Nat × Nat)), placesL T fs = some l →
    (fs.mapM fun f => (do pure (f.offset, ← sizeOf f.type) : Sem (Nat × Nat))).run P w = .ok l w := by
  intro fs
  induction fs with
  | nil => intro l h; simp [placesL] at h; subst h; simp
  | cons f r ih =>
    intro l h
    simp only [placesL] at h
    split at h
    · rename_i s b z l' h1 h2
      simp at h; subst h
      rw [List.mapM_cons, Sem.run_bind, Sem.run_bind, run_size h1, Result.andThen_ok, Sem.run_pure, Result.andThen_ok, Sem.run_bind, ih _ h2, Result.andThen_ok, Sem.run_pure]
    · cases h

def idx {α : Type} : Nat → List α → Option α
  | _, [] => none
  | 0, a :: _ => some a
  | n + 1, _ :: r => idx n r
theorem idx_eq {α : Type} : ∀ (n : Nat) (l : List α), idx n l = l[n]?
  | _, [] => by simp [idx]
  | 0, a :: _ => by simp [idx]
  | n + 1, _ :: r => by simp [idx, idx_eq n r]

def aggT : TypeDesc → Bool
  | .struct _ | .array _ _ => true
  | _ => false

/-- a part of an aggregate -/
def partL (T : Ty P) (t : TypeId) (cs : List Value) (off : Nat) : Option Value :=
  match T.und t, T.inf t with
  | some d, some (s, _, _) => bif aggT d then some (.agg ((cs.drop off).take s).toArray) else idx off cs
  | _, _ => none

theorem run_isAgg {T : Ty P} {t : TypeId} {d : TypeDesc} (h : T.und t = some d) (w : World) : (isAgg t).run P w = .ok (aggT d) w := by
  simp [isAgg, run_und h]
  cases d <;> simp [aggT]

theorem partL_run {T : Ty P} {t : TypeId} {cs : Array Value} {off : Nat} {v : Value} (h : partL T t cs.toList off = some v) (w : World) : (part t cs off).run P w = .ok v w := by
  unfold partL at h
  split at h
  · rename_i d s b z h1 h2
    unfold part
    rw [Sem.run_bind, run_isAgg h1, Result.andThen_ok]
    cases hd : aggT d with
    | true =>
      simp only [hd, cond_true, Option.some.injEq] at h
      subst h
      simp only [if_true, Sem.run_bind, run_size h2, Result.andThen_ok, Sem.run_pure]
      congr 2
      apply Array.ext'
      simp [List.take_drop, Nat.add_comm]
    | false =>
      simp only [hd, cond_false] at h
      rw [idx_eq] at h
      have : cs[off]? = some v := by simpa using h
      simp [this]
  · cases h

/-- what an operation gives that neither reads nor writes memory -/
def pureVal (T : Ty P) (env : Env) : Op → Option Value
  | .move x => ev env x
  | .assign x => ev env x
  | .pick c a b => match ev env c, ev env a, ev env b with
    | some (.bool c), some (.bool x), some (.bool y) => some (.bool (bif c then x else y))
    | some (.bool c), some x, some y => some (bif c then x else y)
    | _, _, _ => none
  | .nilCheck x => match ev env x with
    | some (.pointer (some a)) => some (.pointer (some a))
    | some (.func (.func f) a b) => some (.func (.func f) a b)
    | _ => none
  | .binOp op t x y _ => match ev env x, ev env y with
    | some a, some b => binVal T op t a b
    | _, _ => none
  | .unOp op _ x => match op, ev env x with
    | .not, some (.bool b) => some (.bool (!b))
    | .neg, some (.int k n) => some (.int k (k.wrap (0 - n)))
    | _, _ => none
  | .convert src dst x => match T.und src, T.und dst, ev env x with
    | some _, some (.int k), some (.int _ n) => some (.int k (k.wrap n))
    | some _, some .string, some (.string s) => some (.string s)
    | _, _, _ => none
  | .extract x i => match ev env x with
    | some (.tuple vs) => idx i vs.toList
    | _ => none
  | .makeFunc fn first captured => match first.toList.mapM (ev env), captured.toList.mapM (ev env) with
    | some a, some b => some (.func fn a.toArray b.toArray)
    | _, _ => none
  | .fieldAddr s x f => match T.und s, ev env x with
    | some (.struct fs), some (.pointer (some ⟨b, o, none⟩)) => match idx f fs.toList with
      | some fd => match T.inf fd.type with
        | some (n + 1, _, _) => some (.pointer (some ⟨b, o + fd.offset, none⟩))
        | _ => none
      | none => none
    | _, _ => none
  | .field t x f => match T.und t, ev env x with
    | some (.struct fs), some (.agg cs) => match idx f fs.toList with
      | some fd => partL T fd.type cs.toList fd.offset
      | none => none
    | _, _ => none
  | .build t parts => match T.und t, T.inf t with
    | some (.struct fs), some (_, _, z) => match placesL T fs.toList, (parts.toList.mapM fun p => (ev env p.2).map fun v => (p.1, v)) with
      | some pl, some vs => match fillL (fun i => idx i pl) (cellsL z) vs with
        | some cs => some (.agg cs.toArray)
        | none => none
      | _, _ => none
    | _, _ => none
  | .call ⟨.builtin .len, args, types⟩ => match idx 0 args.toList, idx 0 types.toList with
    | some x, some t => match T.und t, ev env x with
      | some (.slice _), some (.slice _ n _) => some (.int .i64 n)
      | some .string, some (.string s) => some (.int .i64 s.size)
      | _, _ => none
    | _, _ => none
  | .call ⟨.builtin .min, ⟨[x, y]⟩, _⟩ => match ev env x, ev env y with
    | some (.int k a), some (.int _ b) => some (.int k (if b < a then b else a))
    | _, _ => none
  | .call ⟨.builtin .max, ⟨[x, y]⟩, _⟩ => match ev env x, ev env y with
    | some (.int k a), some (.int _ b) => some (.int k (if b > a then b else a))
    | _, _ => none
  | .call ⟨.builtin .min, ⟨[x, y, z]⟩, _⟩ => match ev env x, ev env y, ev env z with
    | some (.int k a), some (.int _ b), some (.int _ c) => some (.int k (if c < (if b < a then b else a) then c else (if b < a then b else a)))
    | _, _, _ => none
  | _ => none

theorem evs_eval {n : Nat} {t : Array Value} {env : Env} (hs : Slots n t env) : ∀ {l : List Operand} {vs : List Value}, l.mapM (ev env) = some vs → l.map (Act.eval ⟨t, []⟩) = vs := by
  intro l
  induction l with
  | nil => intro vs h; simp at h; simp [h]
  | cons x l ih =>
    intro vs h
    rw [List.mapM_cons] at h
    cases h1 : ev env x with
    | none => simp [h1] at h
    | some v =>
      cases h2 : l.mapM (ev env) with
      | none => simp [h1, h2] at h
      | some r =>
        simp [h1, h2] at h
        subst h
        simp [ev_eval hs h1, ih h2]

theorem evps_eval {n : Nat} {t : Array Value} {env : Env} (hs : Slots n t env) : ∀ {l : List (Nat × Operand)} {vs : List (Nat × Value)},
    (l.mapM fun p => (ev env p.2).map fun v => (p.1, v)) = some vs → (l.map fun p => (p.1, Act.eval ⟨t, []⟩ p.2)) = vs := by
  intro l
  induction l with
  | nil => intro vs h; simp at h; simp [h]
  | cons x l ih =>
    intro vs h
    rw [List.mapM_cons] at h
    cases h1 : ev env x.2 with
    | none => simp [h1] at h
    | some v =>
      cases h2 : (l.mapM fun p => (ev env p.2).map fun v => (p.1, v)) with
      | none => simp [h1, h2] at h
      | some r =>
        simp [h1, h2] at h
        subst h
        simp [ev_eval hs h1, ih h2]

theorem pureVal_run {T : Ty P} {n : Nat} {t : Array Value} {env : Env} {o : Oper} {v : Value} (hs : Slots n t env) (h : pureVal T env o.op = some v) (w : World) :
    (execOp (Act.eval ⟨t, []⟩) o).run P w = .ok (.value v) w := by
  unfold pureVal at h
  unfold execOp
  split at h <;> (try cases h)
  all_goals rename_i heq; simp only [heq]
  · rw [ev_eval hs h]; rfl
  · rw [ev_eval hs h]; rfl
  · split at h
    · rename_i h1 h2 h3
      simp at h; subst h
      rename_i c _ _
      simp only [ev_eval hs h1, ev_eval hs h2, ev_eval hs h3]
      cases c <;> simp [asBool]
    · rename_i hno hc ha hb
      simp at h; subst h
      rename_i c _ _ _
      simp only [ev_eval hs hc, ev_eval hs ha, ev_eval hs hb]
      cases c <;> simp [asBool]
    · cases h
  · split at h
    · rename_i h1; simp at h; subst h; rw [ev_eval hs h1]; rfl
    · rename_i h1; simp at h; subst h; rw [ev_eval hs h1]; rfl
    · cases h
  · split at h
    · rename_i h1 h2
      rw [ev_eval hs h1, ev_eval hs h2]
      rw [Sem.run_bind, binVal_run h w]; rfl
    · cases h
  · split at h
    · rename_i h1; simp at h; subst h; rw [ev_eval hs h1]; rfl
    · rename_i h1; rw [Option.some.injEq] at h; subst h; rw [ev_eval hs h1]; rfl
    · cases h
  · split at h
    · rename_i hsrc hdst h1
      simp at h; subst h
      rw [ev_eval hs h1]
      simp [convert, run_und hsrc, run_und hdst, Conv.intToInt]
    · rename_i hsrc hdst h1
      simp at h; subst h
      rw [ev_eval hs h1]
      simp [convert, run_und hsrc, run_und hdst]
    · cases h
  · split at h
    · rename_i h1
      rw [idx_eq] at h
      rw [ev_eval hs h1]
      simp at h
      simp [Instr.extract, h]
    · cases h
  · split at h
    · rename_i h1 h2
      simp at h; subst h
      rw [← evs_eval hs h1, ← evs_eval hs h2]
      simp only [Instr.makeFunc, Sem.run_bind, Sem.run_pure, Result.andThen_ok]
      congr 3 <;> (apply Array.ext'; simp)
    · cases h
  · split at h
    · rename_i fs b off hund h1
      split at h
      · rename_i fd hfd
        split at h
        · rename_i m x y hinf
          simp at h; subst h
          rw [ev_eval hs h1]
          rw [idx_eq] at hfd
          simp at hfd
          simp [Instr.fieldAt, run_und hund, hfd, Instr.sureAddr, fieldPlace, run_size hinf, Addr.add]
          try (intro h0; simp [h0])
        · cases h
      · cases h
    · cases h
  · split at h
    · rename_i fs cs hund h1
      split at h
      · rename_i fd hfd
        rw [ev_eval hs h1]
        rw [idx_eq] at hfd
        simp at hfd
        simp [Instr.field, run_und hund, hfd, asAgg, partL_run h]
      · cases h
    · cases h
  · split at h
    · rename_i tt parts _ _ fs s b z hund hinf
      split at h
      · rename_i pl vs hpl hvs
        split at h
        · rename_i cs hcs
          simp at h; subst h
          have h1 : cellsL z = (z.cells).toList := (cellsL_eq z).symm
          rw [h1] at hcs
          have h2 := fill_toList _ _ _ _ hcs
          have h3 := run_places w _ _ hpl
          have h4 := evps_eval hs hvs
          have h5 : ((fs.mapM fun f => (do pure (f.offset, ← sizeOf f.type) : Sem (Nat × Nat)))).run P w = .ok pl.toArray w := by
            rw [Array.mapM_eq_mapM_toList, Sem.run_map, h3]; rfl
          simp only [Instr.build, Sem.run_bind, run_zero hinf, Result.andThen_ok, run_und hund, h5]
          have h6 : (parts.map fun (x : Nat × Operand) => (x.1, Act.eval ⟨t, []⟩ x.2)).toList = vs := by rw [← h4]; simp
          have h7 : (fun i => pl.toArray[i]?) = (fun i => idx i pl) := by funext i; rw [idx_eq]; simp
          have h8 : Instr.fill (fun i => pl.toArray[i]?) z.cells ((parts.map fun (x : Nat × Operand) => (x.1, Act.eval ⟨t, []⟩ x.2)).toList) = some cs.toArray := by rw [h6, h7]; exact h2
          rw [h8]
          rfl
        · cases h
      · cases h
    · cases h
  · split at h
    · rename_i h1 h2
      split at h
      · rename_i hu hx
        simp at h; subst h
        rw [idx_eq] at h1 h2
        simp at h1 h2
        simp [resolve, invoke, builtin, Builtin.len_, h1, h2, ev_eval hs hx, run_und hu, goInt]
      · rename_i hu hx
        simp at h; subst h
        rw [idx_eq] at h1 h2
        simp at h1 h2
        simp [resolve, invoke, builtin, Builtin.len_, h1, h2, ev_eval hs hx, run_und hu, goInt]
      · cases h
    · cases h
  · split at h
    · rename_i h1 h2
      simp at h; subst h
      simp [resolve, invoke, builtin, Builtin.min_, Builtin.min2, ev_eval hs h1, ev_eval hs h2]
    · cases h
  · split at h
    · rename_i h1 h2
      simp at h; subst h
      simp [resolve, invoke, builtin, Builtin.max_, Builtin.max2, ev_eval hs h1, ev_eval hs h2]
    · cases h
  · split at h
    · rename_i h1 h2 h3
      simp at h; subst h
      simp [resolve, invoke, builtin, Builtin.min_, Builtin.min2, ev_eval hs h1, ev_eval hs h2, ev_eval hs h3]
    · cases h

section
variable {T : Ty P} {n : Nat} {Q : Exit → Act → World → Prop} {env : Env} {H : Hp} {ops : Array Oper} {i : Nat} {K : Act → World → Prop} {o : Oper}
/-- a plain operation -/
theorem at_p (T : Ty P) {d : Nat} {v : Value} (ho : ops[i]? = some o) (hw : want ops env o = some true) (hd : o.dst = some d) (hn : d < n)
    (hv : pureVal T env o.op = some v) (h : At W n K ((d, v) :: env) H) : At W n (wpOp P ops Q i K) env H :=
  at_val ho hw hd hn (fun _ w s _ => pureVal_run s hv w) h
end
end

section
variable {W : World}
variable {P : Program}

/-! ### blocks in groups -/
theorem flatten_erase : ∀ (HL : List Hp) (j : Nat) (Hj : Hp), HL[j]? = some Hj → HL.flatten.Perm (Hj ++ (HL.eraseIdx j).flatten)
  | [], j, Hj, h => by simp at h
  | A :: r, 0, Hj, h => by simp at h; subst h; simp
  | A :: r, j + 1, Hj, h => by
    simp at h
    have ih := flatten_erase r j Hj h
    simp only [List.flatten_cons, List.eraseIdx_cons_succ]
    refine (List.Perm.append_left A ih).trans ?_
    rw [← List.append_assoc, ← List.append_assoc]
    exact List.Perm.append_right _ List.perm_append_comm

theorem flatten_set : ∀ (HL : List Hp) (j : Nat) (Hj H' : Hp), HL[j]? = some Hj → (HL.set j H').flatten.Perm (H' ++ (HL.eraseIdx j).flatten)
  | [], j, Hj, H', h => by simp at h
  | A :: r, 0, Hj, H', h => by simp
  | A :: r, j + 1, Hj, H', h => by
    simp at h
    have ih := flatten_set r j Hj H' h
    simp only [List.set_cons_succ, List.flatten_cons, List.eraseIdx_cons_succ]
    refine (List.Perm.append_left A ih).trans ?_
    rw [← List.append_assoc, ← List.append_assoc]
    exact List.Perm.append_right _ List.perm_append_comm

def pick : List Nat → List Hp → List Hp
  | [], _ => []
  | j :: js, HL => match idx j HL with
    | some A => A :: pick js (HL.eraseIdx j)
    | none => []

theorem own_pick {w : World} : ∀ (js : List Nat) (HL : List Hp) (A : Hp), Own W w (A ++ HL.flatten) → Own W w (A ++ (pick js HL).flatten)
  | [], HL, A, h => by simpa [pick] using h.left
  | j :: js, HL, A, h => by
    unfold pick
    cases hj : idx j HL with
    | none => simpa using h.left
    | some B =>
      rw [idx_eq] at hj
      have h1 : Own W w (A ++ (B ++ (HL.eraseIdx j).flatten)) := h.perm (List.Perm.append_left A (flatten_erase HL j B hj))
      rw [← List.append_assoc] at h1
      have := own_pick js (HL.eraseIdx j) (A ++ B) h1
      simpa [List.append_assoc] using this

theorem own_pick0 {w : World} {HL : List Hp} (js : List Nat) (h : Own W w HL.flatten) : Own W w (pick js HL).flatten := by
  simpa using own_pick js HL [] (by simpa using h)

theorem mem_group {HL : List Hp} {j : Nat} {Hj : Hp} (h : HL[j]? = some Hj) {c : Nat × Obj} (hc : c ∈ Hj) : c ∈ HL.flatten :=
  List.mem_flatten.2 ⟨Hj, List.mem_of_getElem? h, hc⟩

/-- the heap, in groups -/
abbrev AtL (W : World) (n : Nat) (F : Act → World → Prop) (env : Env) (HL : List Hp) : Prop := At W n F env HL.flatten

variable {T : Ty P} {n : Nat} {Q : Exit → Act → World → Prop} {env : Env} {HL : List Hp} {ops : Array Oper} {i : Nat} {K : Act → World → Prop} {o : Oper}

/-- slots and groups as they are wanted: the groups' numbers, one behind the other, each in what is left -/
theorem at_to {F : Act → World → Prop} (env' : Env) (js : List Nat) (HL' : List Hp) (hs : sub env' env) (hh : pick js HL = HL') (h : AtL W n F env' HL') : AtL W n F env HL :=
  at_cut hs (fun w ow => hh ▸ own_pick0 js ow) h

/-- the head group's turn -/
theorem own_group_turn {w w' : World} {j b : Nat} {Hr : Hp} {o o' : Obj} (hj : HL[j]? = some ((b, o) :: Hr)) (ow : Own W w HL.flatten) (e : w'.heap = w.heap.setIfInBounds b o') (e1 : w'.os = w.os) (e2 : w'.tape = w.tape) (e3 : w'.output = w.output) :
    Own W w' (HL.set j ((b, o') :: Hr)).flatten := by
  have h1 := ow.perm (flatten_erase HL j _ hj)
  have h2 : Own W w' ((b, o') :: (Hr ++ (HL.eraseIdx j).flatten)) := Own.turn (by simpa using h1) e e1 e2 e3
  exact h2.perm (by simpa using (flatten_set HL j _ ((b, o') :: Hr) hj).symm)

theorem own_group_new {w : World} (o : Obj) (ow : Own W w HL.flatten) : Own W (w.alloc o) (HL ++ [[(w.heap.size, o)]]).flatten := by
  have := ow.alloc o
  refine this.perm ?_
  simp only [List.flatten_append, List.flatten_cons, List.flatten_nil, List.append_nil]
  exact (List.perm_append_comm (l₁ := [(w.heap.size, o)]) (l₂ := HL.flatten))

/-! ### loads and stores, by the cell -/
theorem run_loadCells_list' (w : World) (b off : Nat) (arr : Array Value) (E : TypeId) (fr : Nat × Nat) (hb : w.heap[b]? = some (.cells arr E fr)) :
    ∀ (m : Nat) (cs : List Value) (i : Nat) (acc : Array Value), cs.length = m → (∀ j v, cs[j]? = some v → arr[off + i + j]? = some v) →
      (loadCellsFrom ⟨b, off, none⟩ i m acc).run P w = .ok (acc ++ cs.toArray) w := by
  intro m
  induction m with
  | zero => intro cs i acc hl _; have : cs = [] := List.length_eq_zero_iff.1 hl; subst this; simp [loadCellsFrom]
  | succ m ih =>
    intro cs i acc hl hc
    cases cs with
    | nil => simp at hl
    | cons c cs =>
      have h0 := hc 0 c rfl
      have hcell : w.cell? (Addr.add ⟨b, off, none⟩ i) = some c := by
        unfold Addr.add
        split
        · rename_i hi; simp [World.cell?, hb]; simpa [hi] using h0
        · simp [World.cell?, hb]; simpa using h0
      simp only [loadCellsFrom, Sem.run_bind, run_load, hcell, Result.andThen_ok]
      rw [ih cs (i + 1) (acc.push c) (by simpa using hl) (fun j v hj => by
        have := hc (j + 1) v (by simpa using hj)
        rw [show off + (i + 1) + j = off + i + (j + 1) by omega]; exact this)]
      simp

/-- a load of one cell -/
theorem at_load (T : Ty P) {d b off : Nat} {t : TypeId} {x : Operand} {td : TypeDesc} {arr : Array Value} {E : TypeId} {fr : Nat × Nat} {v : Value}
    (ho : ops[i]? = some o) (hw : want ops env o = some true) (hd : o.dst = some d) (hn : d < n) (hop : o.op = .load t x) (hx : ev env x = some (.pointer (some ⟨b, off, none⟩)))
    (hu : T.und t = some td) (ha : aggT td = false) (hm : (b, Obj.cells arr E fr) ∈ HL.flatten) (hc : arr[off]? = some v)
    (h : AtL W n K ((d, v) :: env) HL) : AtL W n (wpOp P ops Q i K) env HL := by
  refine at_val ho hw hd hn (fun t' w s ow => ?_) h
  unfold execOp
  have hcell := ow.cell hm hc
  simp [hop, ev_eval s hx, Instr.loadAt, Instr.sureAddr, loadVar, run_isAgg hu, ha, hcell]

/-- a load of an aggregate -/
theorem at_load_agg (T : Ty P) {d b off : Nat} {t : TypeId} {x : Operand} {td : TypeDesc} {arr : Array Value} {E : TypeId} {fr : Nat × Nat} {cs : List Value} {sz by' : Nat} {z : Value}
    (ho : ops[i]? = some o) (hw : want ops env o = some true) (hd : o.dst = some d) (hn : d < n) (hop : o.op = .load t x) (hx : ev env x = some (.pointer (some ⟨b, off, none⟩)))
    (hu : T.und t = some td) (ha : aggT td = true) (hi : T.inf t = some (sz, by', z)) (hm : (b, Obj.cells arr E fr) ∈ HL.flatten)
    (hl : cs.length = sz) (hc : ∀ j v, cs[j]? = some v → arr[off + j]? = some v)
    (h : AtL W n K ((d, .agg cs.toArray) :: env) HL) : AtL W n (wpOp P ops Q i K) env HL := by
  refine at_val ho hw hd hn (fun t' w s ow => ?_) h
  unfold execOp
  have hb := ow.lookup hm
  have := run_loadCells_list' (P := P) w b off arr E fr hb sz cs 0 #[] hl (by simpa using hc)
  simp [hop, ev_eval s hx, Instr.loadAt, Instr.sureAddr, loadVar, run_isAgg hu, ha, run_size hi, loadCells, this]

/-- the cells of a block behind stores of a list, from a place on -/
def stored (arr : Array Value) (off : Nat) : List Value → Array Value
  | [] => arr
  | v :: r => stored (arr.setIfInBounds off v) (off + 1) r

theorem stored_toList : ∀ (vs : List Value) (arr : Array Value) (off : Nat), off + vs.length ≤ arr.size → stored arr off vs = (splice arr.toList off vs).toArray
  | [], arr, off, h => by simp [stored, splice]
  | v :: r, arr, off, h => by
    simp only [List.length_cons] at h
    rw [stored, stored_toList r _ _ (by simp; omega)]
    congr 1
    have := foldl_splice [v] arr.toList off 0 (by simp; omega)
    have h2 := foldl_splice (v :: r) arr.toList off 0 (by simp; omega)
    simp only [Array.toList_setIfInBounds]
    have h3 := foldl_splice r (arr.toList.set off v) off 1 (by simp; omega)
    simp only [List.zipIdx_cons, List.foldl_cons, Nat.zero_add, Nat.add_zero] at h2
    rw [h3] at h2
    exact h2

theorem run_storeCells' (T : Ty P) {H : Hp} (b : Nat) (E : TypeId) : ∀ (vs : List Value) (w : World) (arr : Array Value) (off i : Nat), Own W w ((b, .cells arr E (0, 0)) :: H) →
    off + i + vs.length ≤ arr.size → (∀ v ∈ vs, v.oneCell' = true) →
    ∃ w', (storeCells ⟨b, off, none⟩ vs i).run P w = .ok () w' ∧ Own W w' ((b, .cells (stored arr (off + i) vs) E (0, 0)) :: H)
  | [], w, arr, off, i, ow, _, _ => ⟨w, by simp [storeCells], by simpa [stored] using ow⟩
  | v :: r, w, arr, off, i, ow, hl, hv => by
    simp only [List.length_cons] at hl
    have hadd : Addr.add ⟨b, off, none⟩ i = ⟨b, off + i, none⟩ := by
      unfold Addr.add
      split
      · rename_i h; simp [h]
      · rfl
    have hcell : w.cell? ⟨b, off + i, none⟩ = some (arr[off + i]'(by omega)) := ow.cell (c := arr) (T := E) (fr := (0, 0)) (List.mem_cons_self ..) (Array.getElem?_eq_getElem (by omega))
    have hfr : w.frozen? ⟨b, off + i, none⟩ = false := ow.unfrozen (c := arr) (T := E) (List.mem_cons_self ..)
    have h1 : (store ⟨b, off + i, none⟩ v).run P w = .ok () (w.setCell ⟨b, off + i, none⟩ v) := by
      rw [run_store P w _ v _ (hv v (by simp))]
      simp [hcell, hfr]
    obtain ⟨w', hr, ow'⟩ := run_storeCells' T b E r (w.setCell ⟨b, off + i, none⟩ v) (arr.setIfInBounds (off + i) v) off (i + 1) (Own.setCell ow) (by simp; omega)
      (fun x hx => hv x (by simp [hx]))
    refine ⟨w', ?_, ?_⟩
    · simp [storeCells, hadd, h1, hr]
    · simpa [stored, Nat.add_assoc] using ow'

/-- a store into a block that stands first in its group -/
theorem at_store (T : Ty P) {b off j : Nat} {t : TypeId} {x y : Operand} {arr : Array Value} {E : TypeId} {v : Value} {sz by' : Nat} {z : Value} {Hr : Hp} {cs : List Value}
    (ho : ops[i]? = some o) (hw : want ops env o = some true) (hd : o.dst = none) (hop : o.op = .store t x y) (hx : ev env x = some (.pointer (some ⟨b, off, none⟩)))
    (hy : ev env y = some v) (hi : T.inf t = some (sz, by', z)) (hj : HL[j]? = some ((b, .cells arr E (0, 0)) :: Hr)) (hl : (cellsL v).length = sz) (hf : ∀ c ∈ cellsL v, c.oneCell' = true)
    (hb : off + sz ≤ arr.size) (hcs : splice arr.toList off (cellsL v) = cs)
    (h : AtL W n K env (HL.set j ((b, .cells cs.toArray E (0, 0)) :: Hr))) : AtL W n (wpOp P ops Q i K) env HL := by
  refine at_unit_w (β := Unit) (G := fun _ => (HL.set j ((b, .cells cs.toArray E (0, 0)) :: Hr)).flatten) ho hw hd (fun t' w s ow => ?_) (fun _ => h)
  have h1 := ow.perm (flatten_erase HL j _ hj)
  have hv : v.cells.size = sz := by rw [← hl, ← cellsL_eq]; simp
  obtain ⟨w', hr, ow'⟩ := run_storeCells' T b E (cellsL v) w arr off 0 (by simpa using h1) (by omega) hf
  refine ⟨(), w', .inl ?_, ?_⟩
  · unfold execOp
    simp [hop, ev_eval s hx, ev_eval s hy, Instr.storeAt, Instr.sureAddr, storeVar, run_size hi, hv, cellsL_eq, hr]
  · rw [Nat.add_zero, stored_toList _ _ _ (by omega), hcs] at ow'
    exact ow'.perm (by simpa using (flatten_set HL j _ ((b, .cells cs.toArray E (0, 0)) :: Hr) hj).symm)

/-- a new variable -/
theorem at_alloc (T : Ty P) {d : Nat} {t : TypeId} {sz by' : Nat} {z : Value} {cs : List Value}
    (ho : ops[i]? = some o) (hw : want ops env o = some true) (hd : o.dst = some d) (hn : d < n) (hop : o.op = .alloc t) (hi : T.inf t = some (sz, by', z)) (hz : cellsL z = cs)
    (h : ∀ b, AtL W n K ((d, .pointer (some ⟨b, 0, none⟩)) :: env) (HL ++ [[(b, Obj.cells cs.toArray t (0, 0))]])) : AtL W n (wpOp P ops Q i K) env HL := by
  refine at_val_w (V := fun b => .pointer (some ⟨b, 0, none⟩)) (G := fun b => (HL ++ [[(b, Obj.cells cs.toArray t (0, 0))]]).flatten) ho hw hd hn (fun t' w s ow => ?_) h
  refine ⟨w.heap.size, w.alloc (.cells cs.toArray t (0, 0)), ?_, own_group_new _ ow⟩
  have : z.cells = cs.toArray := by apply Array.ext'; rw [cellsL_eq, hz]
  unfold execOp
  simp [hop, Instr.alloc, run_zero hi, newVar, newRow, this]

/-- a new variable with a value -/
theorem at_box (T : Ty P) {d : Nat} {t : TypeId} {x : Operand} {v : Value} {cs : List Value}
    (ho : ops[i]? = some o) (hw : want ops env o = some true) (hd : o.dst = some d) (hn : d < n) (hop : o.op = .box t x) (hx : ev env x = some v) (hz : cellsL v = cs)
    (h : ∀ b, AtL W n K ((d, .pointer (some ⟨b, 0, none⟩)) :: env) (HL ++ [[(b, Obj.cells cs.toArray t (0, 0))]])) : AtL W n (wpOp P ops Q i K) env HL := by
  refine at_val_w (V := fun b => .pointer (some ⟨b, 0, none⟩)) (G := fun b => (HL ++ [[(b, Obj.cells cs.toArray t (0, 0))]]).flatten) ho hw hd hn (fun t' w s ow => ?_) h
  refine ⟨w.heap.size, w.alloc (.cells cs.toArray t (0, 0)), ?_, own_group_new _ ow⟩
  have : v.cells = cs.toArray := by apply Array.ext'; rw [cellsL_eq, hz]
  unfold execOp
  simp [hop, Instr.box, newVar, newRow, this, ev_eval s hx]
end

section
variable {W : World}
variable {P : Program}

/-- a kind of plain things: each so many cells -/
structure Fl (α : Type) where
  size : Nat
  enc : α → List Value
  len : ∀ x, (enc x).length = size
  plain : ∀ x, ∀ v ∈ enc x, v.oneCell' = true
  pos : 0 < size

def Fl.int (k : IntKind) : Fl Int := ⟨1, fun x => [.int k x], fun _ => rfl, fun _ v h => by simp at h; subst h; rfl, by decide⟩
def Fl.bool : Fl Bool := ⟨1, fun x => [.bool x], fun _ => rfl, fun _ v h => by simp at h; subst h; rfl, by decide⟩

def rd {α : Type} [Inhabited α] (xs : List α) (i : Int) : α := xs.getD i.toNat default
theorem rd_eq {α : Type} [Inhabited α] {xs : List α} {i : Int} (h : i.toNat < xs.length) : rd xs i = xs[i.toNat] := by
  simp [rd, h]

section
variable {α : Type} (k : Fl α)
def row (xs : List α) : List Value := (xs.map k.enc).flatten

theorem row_nil : row k [] = [] := rfl
theorem row_cons (x : α) (xs : List α) : row k (x :: xs) = k.enc x ++ row k xs := rfl
theorem row_append (xs ys : List α) : row k (xs ++ ys) = row k xs ++ row k ys := by simp [row]
theorem row_length (xs : List α) : (row k xs).length = xs.length * k.size := by
  induction xs with
  | nil => simp [row_nil]
  | cons x xs ih => simp [row_cons, ih, k.len, Nat.succ_mul, Nat.add_comm]
theorem row_plain (xs : List α) : ∀ v ∈ row k xs, v.oneCell' = true := by
  intro v hv
  simp only [row, List.mem_flatten, List.mem_map] at hv
  obtain ⟨l, ⟨x, _, rfl⟩, hv⟩ := hv
  exact k.plain x v hv
theorem row_get (xs : List α) (i j : Nat) (hi : i < xs.length) (hj : j < k.size) : (row k xs)[i * k.size + j]? = (k.enc xs[i])[j]? := by
  induction xs generalizing i with
  | nil => simp at hi
  | cons x xs ih =>
    rw [row_cons]
    cases i with
    | zero => simp; rw [List.getElem?_append_left (by rw [k.len]; exact hj)]
    | succ i =>
      rw [List.getElem?_append_right (by rw [k.len, Nat.succ_mul]; omega)]
      rw [k.len, show (i + 1) * k.size + j - k.size = i * k.size + j by rw [Nat.succ_mul]; omega]
      simpa using ih i (by simpa using hi)

/-- a slice that may be read: what it reads as, over some heap -/
def SliceR (xs : List α) (a : Option Addr) (H : Hp) : Prop :=
  xs = [] ∨ ∃ b off arr E fr, a = some ⟨b, off, none⟩ ∧ (b, Obj.cells arr E fr) ∈ H ∧ ∀ j v, (row k xs)[j]? = some v → arr[off + j]? = some v

/-- a slice that is owned -/
def SliceO (E : TypeId) (xs : List α) (a : Option Addr) (cap : Nat) (H : Hp) : Prop :=
  (a = none ∧ xs = [] ∧ cap = 0 ∧ H = []) ∨
    ∃ b pre post, a = some ⟨b, List.length pre, none⟩ ∧ H = [(b, Obj.cells (pre ++ (row k xs ++ post)).toArray E (0, 0))] ∧ xs.length ≤ cap ∧ post.length = (cap - xs.length) * k.size
variable {k}

theorem SliceR.mono {xs : List α} {a : Option Addr} {H H' : Hp} (h : SliceR k xs a H) (hs : ∀ c ∈ H, c ∈ H') : SliceR k xs a H' := by
  rcases h with h | ⟨b, off, arr, E, fr, h1, h2, h3⟩
  · exact .inl h
  · exact .inr ⟨b, off, arr, E, fr, h1, hs _ h2, h3⟩

theorem SliceO.r {E : TypeId} {xs : List α} {a : Option Addr} {cap : Nat} {H : Hp} (h : SliceO k E xs a cap H) : SliceR k xs a H := by
  rcases h with ⟨_, h, _, _⟩ | ⟨b, pre, post, h1, rfl, h2, h3⟩
  · exact .inl h
  · refine .inr ⟨b, pre.length, _, E, (0, 0), h1, List.mem_cons_self .., fun j v hj => ?_⟩
    have hl := (List.getElem?_eq_some_iff.1 hj).1
    simp only [List.getElem?_toArray]
    rw [List.getElem?_append_right (by omega), Nat.add_sub_cancel_left, List.getElem?_append_left hl]
    exact hj

theorem SliceO.nil {E : TypeId} : SliceO k E ([] : List α) none 0 [] := .inl ⟨rfl, rfl, rfl, rfl⟩

theorem SliceO.cap_le {E : TypeId} {xs : List α} {a : Option Addr} {cap : Nat} {H : Hp} (h : SliceO k E xs a cap H) : xs.length ≤ cap := by
  rcases h with ⟨_, rfl, _, _⟩ | ⟨b, pre, post, h1, rfl, h2, h3⟩
  · simp
  · exact h2

theorem SliceR.addr {xs : List α} {a : Option Addr} {H : Hp} (h : SliceR k xs a H) {i : Int} (h0 : 0 ≤ i) (h1 : i < xs.length) : ∃ b off, a = some ⟨b, off, none⟩ := by
  rcases h with rfl | ⟨b, off, arr, E, fr, h1, h2, h3⟩
  · simp at h1; omega
  · exact ⟨b, off, h1⟩

/-- an element's cells -/
theorem SliceR.elem {xs : List α} {a : Option Addr} {H : Hp} (h : SliceR k xs a H) [Inhabited α] {b off : Nat} (ha : a = some ⟨b, off, none⟩) {i : Int} (h0 : 0 ≤ i) (h1 : i < xs.length) :
    ∃ arr E fr, (b, Obj.cells arr E fr) ∈ H ∧ ∀ j v, (k.enc (rd xs i))[j]? = some v → arr[off + i.toNat * k.size + j]? = some v := by
  rcases h with rfl | ⟨b', off', arr, E, fr, h2, h3, h4⟩
  · simp at h1; omega
  · rw [ha] at h2
    simp at h2
    obtain ⟨rfl, rfl⟩ := h2
    have hi : i.toNat < xs.length := by omega
    refine ⟨arr, E, fr, h3, fun j v hj => ?_⟩
    have hjl := (List.getElem?_eq_some_iff.1 hj).1
    rw [k.len] at hjl
    rw [rd_eq hi] at hj
    have := row_get k xs i.toNat j hi hjl
    rw [Nat.add_assoc]
    exact h4 _ _ (this.trans hj)
end

section rules
variable {T : Ty P} {n : Nat} {Q : Exit → Act → World → Prop} {env : Env} {HL : List Hp} {ops : Array Oper} {i : Nat} {K : Act → World → Prop} {o : Oper}

/-- the address of an element -/
theorem at_index (T : Ty P) {d m cap sz by' : Nat} {t E : TypeId} {x ix : Operand} {a : Option Addr} {kk : IntKind} {j : Int} {z : Value}
    (ho : ops[i]? = some o) (hw : want ops env o = some true) (hd : o.dst = some d) (hn : d < n) (hop : o.op = .indexAddr t x ix)
    (hx : ev env x = some (.slice a m cap)) (hix : ev env ix = some (.int kk j)) (hu : T.und t = some (.slice E)) (hi : T.inf E = some (sz, by', z))
    (ha : ∃ b off, a = some ⟨b, off, none⟩) (h0 : 0 ≤ j) (h1 : j < (m : Int))
    (h : ∀ b off, a = some ⟨b, off, none⟩ → AtL W n K ((d, .pointer (some ⟨b, off + j.toNat * sz, none⟩)) :: env) HL) : AtL W n (wpOp P ops Q i K) env HL := by
  obtain ⟨b, off, rfl⟩ := ha
  refine at_val ho hw hd hn (fun t' w s ow => ?_) (h b off rfl)
  unfold execOp
  simp only [hop, ev_eval s hx, ev_eval s hix, Instr.indexAt, asIntOf, Sem.run_bind, Sem.run_pure, Result.andThen_ok, run_und hu, Sem.run_ite, h0, h1, and_self, if_true, run_size hi]
  congr 3
  unfold Addr.add
  split
  · rename_i h; simp [h]
  · rfl

theorem at_loadx (T : Ty P) {d b off : Nat} {t : TypeId} {x : Operand} {td : TypeDesc} {v : Value}
    (ho : ops[i]? = some o) (hw : want ops env o = some true) (hd : o.dst = some d) (hn : d < n) (hop : o.op = .load t x) (hx : ev env x = some (.pointer (some ⟨b, off, none⟩)))
    (hu : T.und t = some td) (ha : aggT td = false) (hm : ∃ arr E fr, (b, Obj.cells arr E fr) ∈ HL.flatten ∧ arr[off]? = some v)
    (h : AtL W n K ((d, v) :: env) HL) : AtL W n (wpOp P ops Q i K) env HL := by
  obtain ⟨arr, E, fr, hm, hc⟩ := hm
  exact at_load T ho hw hd hn hop hx hu ha hm hc h

theorem at_loadx_agg (T : Ty P) {d b off : Nat} {t : TypeId} {x : Operand} {td : TypeDesc} {cs : List Value} {sz by' : Nat} {z : Value}
    (ho : ops[i]? = some o) (hw : want ops env o = some true) (hd : o.dst = some d) (hn : d < n) (hop : o.op = .load t x) (hx : ev env x = some (.pointer (some ⟨b, off, none⟩)))
    (hu : T.und t = some td) (ha : aggT td = true) (hi : T.inf t = some (sz, by', z)) (hm : ∃ arr E fr, (b, Obj.cells arr E fr) ∈ HL.flatten ∧ ∀ j v, cs[j]? = some v → arr[off + j]? = some v)
    (hl : cs.length = sz) (h : AtL W n K ((d, .agg cs.toArray) :: env) HL) : AtL W n (wpOp P ops Q i K) env HL := by
  obtain ⟨arr, E, fr, hm, hc⟩ := hm
  exact at_load_agg T ho hw hd hn hop hx hu ha hi hm hl hc h

variable {α : Type} [Inhabited α] {k : Fl α}
/-- an element that is read: one cell, so far in -/
theorem SliceR.at {xs : List α} {a : Option Addr} {H : Hp} (h : SliceR k xs a H) {b off : Nat} (ha : a = some ⟨b, off, none⟩) {j : Int} (h0 : 0 ≤ j) (h1 : j < xs.length) (f : Nat) {v : Value}
    (hv : idx f (k.enc (rd xs j)) = some v) : ∃ arr E fr, (b, Obj.cells arr E fr) ∈ H ∧ arr[off + j.toNat * k.size + f]? = some v := by
  obtain ⟨arr, E, fr, hm, hc⟩ := h.elem ha h0 h1
  exact ⟨arr, E, fr, hm, hc f v (by rw [← idx_eq]; exact hv)⟩

/-- a store into an element of an owned slice -/
theorem at_store_elem (T : Ty P) {b off g f : Nat} {t E : TypeId} {x y : Operand} {v : Value} {sz by' cap : Nat} {z : Value} {Hj : Hp} {xs : List α} {a : Option Addr} {j : Int} (x' : α)
    (ho : ops[i]? = some o) (hw : want ops env o = some true) (hd : o.dst = none) (hop : o.op = .store t x y) (hx : ev env x = some (.pointer (some ⟨b, off + j.toNat * k.size + f, none⟩)))
    (hy : ev env y = some v) (hi : T.inf t = some (sz, by', z)) (hj : HL[g]? = some Hj) (hs : SliceO k E xs a cap Hj) (ha : a = some ⟨b, off, none⟩) (h0 : 0 ≤ j) (h1 : j < xs.length)
    (hl : (cellsL v).length = sz) (hf : f + sz ≤ k.size) (he : k.enc x' = splice (k.enc (rd xs j)) f (cellsL v))
    (h : ∀ H', SliceO k E (xs.set j.toNat x') a cap H' → AtL W n K env (HL.set g H')) : AtL W n (wpOp P ops Q i K) env HL := by
  rcases hs with ⟨rfl, _, _, _⟩ | ⟨b', pre, post, h2, rfl, h3, h4⟩
  · cases ha
  · rw [h2] at ha
    simp at ha
    obtain ⟨rfl, rfl⟩ := ha
    have hlt : j.toNat < xs.length := by omega
    have hx1 : xs = xs.take j.toNat ++ (rd xs j :: xs.drop (j.toNat + 1)) := by
      rw [rd_eq hlt]; simp
    have hx2 : xs.set j.toNat x' = xs.take j.toNat ++ (x' :: xs.drop (j.toNat + 1)) := by
      rw [List.set_eq_take_append_cons_drop]; simp [hlt]
    have hlen : (row k (xs.take j.toNat)).length = j.toNat * k.size := by rw [row_length]; congr 1; simp; omega
    have hk1 := k.len (rd xs j)
    have hplain : ∀ c ∈ cellsL v, c.oneCell' = true := by
      intro c hc
      apply k.plain x' c
      rw [he]; unfold splice; simp [hc]
    have hcs : splice (pre ++ (row k xs ++ post)) (pre.length + j.toNat * k.size + f) (cellsL v) = pre ++ (row k (xs.set j.toNat x') ++ post) := by
      rw [hx2]
      conv => lhs; rw [hx1]
      rw [row_append, row_append, row_cons, row_cons, he]
      unfold splice
      rw [show pre.length + j.toNat * k.size + f = (pre ++ row k (xs.take j.toNat)).length + f by simp [hlen]]
      rw [show pre ++ ((row k (xs.take j.toNat) ++ (k.enc (rd xs j) ++ row k (xs.drop (j.toNat + 1)))) ++ post) = (pre ++ row k (xs.take j.toNat)) ++ (k.enc (rd xs j) ++ (row k (xs.drop (j.toNat + 1)) ++ post)) by simp]
      rw [Nat.add_assoc, List.take_length_add_append, List.drop_length_add_append]
      rw [List.take_append_of_le_length (by omega), List.drop_append_of_le_length (by omega)]
      simp
    refine at_store T (cs := pre ++ (row k (xs.set j.toNat x') ++ post)) ho hw hd hop hx hy hi hj hl hplain ?_ (by simpa using hcs) (h _ (.inr ⟨b', pre, post, h2, rfl, by simpa using h3, by simpa using h4⟩))
    · have : (row k xs).length = xs.length * k.size := row_length k xs
      have h5 : (j.toNat + 1) * k.size ≤ xs.length * k.size := Nat.mul_le_mul_right _ hlt
      rw [Nat.succ_mul] at h5
      simp [this]; omega
end rules
end

section
variable {W : World}
variable {P : Program}

theorem idx_some {α : Type} {n : Nat} {l : List α} {v : α} (h : idx n l = some v) : l[n]? = some v := by rw [← idx_eq]; exact h

theorem Own.mem_cells {w : World} {H : Hp} {b : Nat} {arr : Array Value} {E : TypeId} {fr : Nat × Nat} (h : Own W w H) (hm : (b, Obj.cells arr E fr) ∈ H) : w.heap[b]? = some (.cells arr E fr) := h.lookup hm

theorem run_first {α : Type} {k : Fl α} {ys : List α} {a : Option Addr} {H : Hp} {w : World} (hr : SliceR k ys a H) (ow : Own W w H) (m c : Nat) :
    (Builtin.firstCells k.size ys.length (.slice a m c)).run P w = .ok (row k ys).toArray w := by
  rcases hr with rfl | ⟨b, off, arr, E, fr, rfl, hm, hc⟩
  · cases a with
    | none => simp [Builtin.firstCells, row_nil]
    | some ad => simp [Builtin.firstCells, row_nil, loadCells, loadCellsFrom]
  · simp only [Builtin.firstCells, loadCells]
    have := run_loadCells_list' (P := P) w b off arr E fr (ow.lookup hm) (ys.length * k.size) (row k ys) 0 #[] (row_length k ys) (by simpa using hc)
    rw [this]; simp

theorem own_set {w' : World} {HL : List Hp} {g : Nat} {Hj H' : Hp} (hj : HL[g]? = some Hj) (h : Own W w' (H' ++ (HL.eraseIdx g).flatten)) : Own W w' (HL.set g H').flatten :=
  h.perm (flatten_set HL g Hj H' hj).symm
theorem own_get {w : World} {HL : List Hp} {g : Nat} {Hj : Hp} (hj : HL[g]? = some Hj) (h : Own W w HL.flatten) : Own W w (Hj ++ (HL.eraseIdx g).flatten) :=
  h.perm (flatten_erase HL g Hj hj)

section rules
variable {T : Ty P} {n : Nat} {Q : Exit → Act → World → Prop} {env : Env} {HL : List Hp} {ops : Array Oper} {i : Nat} {K : Act → World → Prop} {o : Oper}
variable {α : Type} {k : Fl α}

theorem zero_row {z : Value} {sz m : Nat} (hz : (cellsL z).length = sz) : (Builtin.zeroCells z.cells m).toList.length = m * sz := by
  have : z.cells.size = sz := by rw [← hz, ← cellsL_eq]; simp
  simp [Builtin.zeroCells, this]

theorem append_run (T : Ty P) {t t' ty E E' : TypeId} {xs ys : List α} {a a2 : Option Addr} {g cap cap2 sz by' : Nat} {z : Value} {Hj : Hp} {w : World}
    (hu : T.und t = some (.slice E)) (hu' : T.und t' = some (.slice E')) (hi : T.inf E = some (sz, by', z)) (hk : k.size = sz) (hz : (cellsL z).length = sz)
    (hj : HL[g]? = some Hj) (so : SliceO k E xs a cap Hj) (sr : SliceR k ys a2 HL.flatten)
    (hb : (xs.length + ys.length) * by' ≤ 140737488355328) (hb2 : xs.length + ys.length ≤ 4611686018427387904) (ow : Own W w HL.flatten) :
    ∃ a' cap' H' w', (Builtin.append_ #[t, t'] ty #[.slice a xs.length cap, .slice a2 ys.length cap2]).run P w = .ok (.slice a' (xs.length + ys.length) cap') w' ∧
      SliceO k E (xs ++ ys) a' cap' H' ∧ Own W w' (HL.set g H').flatten := by
  obtain ⟨inf, hinf, hsz, hby, hzz⟩ := T.hinf E sz by' z hi
  have hfx : ∀ w', Own W w' HL.flatten → (Builtin.firstCells sz ys.length (.slice a2 ys.length cap2)).run P w' = .ok (row k ys).toArray w' := fun w' o => by
    rw [← hk]; exact run_first (P := P) sr o ys.length cap2
  have hfo : ∀ w', Own W w' HL.flatten → (Builtin.firstCells sz xs.length (.slice a xs.length cap)).run P w' = .ok (row k xs).toArray w' := fun w' o => by
    rw [← hk]; exact run_first (P := P) (so.r.mono fun c hc => mem_group hj hc) o xs.length cap
  by_cases hcap : xs.length + ys.length ≤ cap
  · rcases so with ⟨rfl, rfl, rfl, rfl⟩ | ⟨b, pre, post, rfl, rfl, h3, h4⟩
    · have hy : ys = [] := by
        have : ys.length = 0 := by simpa using hcap
        exact List.length_eq_zero_iff.1 this
      subst hy
      refine ⟨none, 0, [], w, ?_, ?_, own_set hj (by simpa using own_get hj ow)⟩
      · have := hfx w ow
        simp [Builtin.append_, run_und hu, run_und hu', run_size hi, Builtin.lenOf]
        simp at this
        simp [this]
      · exact .inl ⟨rfl, rfl, rfl, rfl⟩
    · have hrl := row_length k ys
      have hxl := row_length k xs
      have hpl : (cap - xs.length) * k.size = (cap - (xs.length + ys.length)) * k.size + ys.length * k.size := by
        rw [← Nat.add_mul]; congr 1; omega
      have hlen : (row k ys).length ≤ post.length := by rw [hrl, h4, hpl]; omega
      have hadd : Addr.add ⟨b, pre.length, none⟩ (xs.length * sz) = ⟨b, pre.length + xs.length * sz, none⟩ := by
        unfold Addr.add
        split
        · rename_i h; simp [h]
        · rfl
      obtain ⟨w', hr, ow'⟩ := run_storeCells' T b E (row k ys) w (pre ++ (row k xs ++ post)).toArray (pre.length + xs.length * sz) 0 (by simpa using own_get hj ow)
        (by simp [hxl, hk]; omega) (row_plain k ys)
      refine ⟨some ⟨b, pre.length, none⟩, cap, [(b, Obj.cells (pre ++ (row k (xs ++ ys) ++ post.drop (row k ys).length)).toArray E (0, 0))], w', ?_, ?_, ?_⟩
      · simp [Builtin.append_, run_und hu, run_und hu', run_size hi, Builtin.lenOf, hcap, hfx w ow, hadd, hr]
      · refine .inr ⟨b, pre, post.drop (row k ys).length, rfl, rfl, by simpa using hcap, ?_⟩
        simp [h4, hrl, hpl]
      · refine own_set hj ?_
        rw [Nat.add_zero, stored_toList _ _ _ (by simp [hxl, hk]; omega)] at ow'
        have e : splice (pre ++ (row k xs ++ post)) (pre.length + xs.length * sz) (row k ys) = pre ++ (row k (xs ++ ys) ++ post.drop (row k ys).length) := by
          unfold splice
          rw [Nat.add_assoc, List.take_length_add_append, List.drop_length_add_append]
          rw [show xs.length * sz = (row k xs).length by rw [hxl, hk]]
          rw [List.take_left', List.drop_length_add_append, row_append]
          · simp
          · rfl
        simpa [e] using ow'
  · have hgt : cap < xs.length + ys.length := by omega
    have hfit := growslice_fits hgt hb
    have hfit' : ¬ (281474976710656 < Builtin.nextslicecap (xs.length + ys.length) cap * by') := by omega
    have h63 : ¬ (9223372036854775807 < ((xs.length : Int) + (ys.length : Int))) := by omega
    have hfx' := hfx w.drew ow.drew
    have hfo' := hfo w.drew ow.drew
    have hnc := Question.cut
    refine ⟨some ⟨w.heap.size, 0, none⟩, grownCap w (xs.length + ys.length) cap E, [(w.heap.size, Obj.cells (row k (xs ++ ys) ++ (Builtin.zeroCells z.cells (grownCap w (xs.length + ys.length) cap E - (xs.length + ys.length))).toList).toArray E (0, 0))],
      w.drew.alloc (.cells (row k (xs ++ ys) ++ (Builtin.zeroCells z.cells (grownCap w (xs.length + ys.length) cap E - (xs.length + ys.length))).toList).toArray E), ?_, ?_, ?_⟩
    · simp [Builtin.append_, run_und hu, run_und hu', run_size hi, Builtin.lenOf, hcap, typeInfo, zeroValue, hinf, hzz, hby, hfit', h63, Question.forced]
      rw [hfo', Result.andThen_ok, hfx', Result.andThen_ok]
      have e : ∀ zc : Array Value, (row k xs).toArray ++ ((row k ys).toArray ++ zc) = (row k (xs ++ ys) ++ zc.toList).toArray := by
        intro zc; apply Array.ext'; simp [row_append]
      rw [e]
      rfl
    · refine .inr ⟨w.heap.size, [], _, rfl, rfl, ?_, ?_⟩
      · simp [grownCap, Question.cut]
      · rw [zero_row hz]; simp [hk]
    · refine own_set hj ?_
      have := (own_get hj ow).right
      have h2 := Own.alloc (.cells (row k (xs ++ ys) ++ (Builtin.zeroCells z.cells (grownCap w (xs.length + ys.length) cap E - (xs.length + ys.length))).toList).toArray E) this.drew
      exact h2

theorem run_builtin {t : Array Value} {b : Builtin} {args : Array Operand} {types : Array TypeId} (w : World) (hop : o.op = .call ⟨.builtin b, args, types⟩) :
    ∃ cs, (execOp (Act.eval ⟨t, []⟩) o).run P w = (builtin b types o.type cs (args.map (Act.eval ⟨t, []⟩))).run P w := by
  unfold execOp
  rw [hop]
  exact ⟨_, rfl⟩

theorem at_append (T : Ty P) {d g : Nat} {s x : Operand} {t t' E E' : TypeId} {xs ys : List α} {a a2 : Option Addr} {cap cap2 sz by' : Nat} {z : Value} {Hj : Hp}
    (ho : ops[i]? = some o) (hw : want ops env o = some true) (hd : o.dst = some d) (hn : d < n) (hop : o.op = .call ⟨.builtin .append, #[s, x], #[t, t']⟩)
    (hs : ev env s = some (.slice a xs.length cap)) (hx : ev env x = some (.slice a2 ys.length cap2)) (hu : T.und t = some (.slice E)) (hu' : T.und t' = some (.slice E'))
    (hi : T.inf E = some (sz, by', z)) (hk : k.size = sz) (hz : (cellsL z).length = sz) (hj : HL[g]? = some Hj) (so : SliceO k E xs a cap Hj) (sr : SliceR k ys a2 HL.flatten)
    (hb : (xs.length + ys.length) * by' ≤ 140737488355328) (hb2 : xs.length + ys.length ≤ 4611686018427387904)
    (h : ∀ a' cap' H', SliceO k E (xs ++ ys) a' cap' H' → AtL W n K ((d, .slice a' (xs ++ ys).length cap') :: env) (HL.set g H')) : AtL W n (wpOp P ops Q i K) env HL := by
  refine at_val_w (β := { p : Option Addr × Nat × Hp // SliceO k E (xs ++ ys) p.1 p.2.1 p.2.2 }) (V := fun p => .slice p.1.1 (xs ++ ys).length p.1.2.1) (G := fun p => (HL.set g p.1.2.2).flatten)
    ho hw hd hn (fun tt w sl ow => ?_) (fun p => h _ _ _ p.2)
  obtain ⟨a', cap', H', w', hr, hso, ow'⟩ := append_run (P := P) T (ty := o.type) hu hu' hi hk hz hj so sr hb hb2 ow
  refine ⟨⟨(a', cap', H'), hso⟩, w', ?_, ow'⟩
  obtain ⟨cs, hb⟩ := run_builtin (P := P) (t := tt) w hop
  rw [hb]
  simp only [List.map_toArray, List.map_cons, List.map_nil, ev_eval sl hs, ev_eval sl hx, builtin, Sem.run_bind]
  refine Eq.trans (congrArg (fun r => Result.andThen r _) hr) ?_
  simp only [Result.andThen_ok, Sem.run_pure, List.length_append]

/-- a new slice of so many zeroes -/
theorem at_makeSlice (T : Ty P) {d : Nat} {t E : TypeId} {x y : Operand} {m : Int} {kk kk' : IntKind} {sz by' : Nat} {z : Value} (x0 : α)
    (ho : ops[i]? = some o) (hw : want ops env o = some true) (hd : o.dst = some d) (hn : d < n) (hop : o.op = .makeSlice t x y) (hx : ev env x = some (.int kk m)) (hy : ev env y = some (.int kk' m))
    (hu : T.und t = some (.slice E)) (hi : T.inf E = some (sz, by', z)) (hk : k.size = sz) (hz : cellsL z = k.enc x0) (h0 : 0 ≤ m) (hm : m ≤ 4611686018427387904) (hb : by' * m ≤ 281474976710656)
    (h : ∀ a cap H', SliceO k E (List.replicate m.toNat x0) a cap H' → AtL W n K ((d, .slice a (List.replicate m.toNat x0).length cap) :: env) (HL ++ [H'])) :
    AtL W n (wpOp P ops Q i K) env HL := by
  refine at_val_w (β := { p : Option Addr × Nat × Hp // SliceO k E (List.replicate m.toNat x0) p.1 p.2.1 p.2.2 }) (V := fun p => .slice p.1.1 (List.replicate m.toNat x0).length p.1.2.1) (G := fun p => (HL ++ [p.1.2.2]).flatten)
    ho hw hd hn (fun t' w s ow => ?_) (fun p => h _ _ _ p.2)
  obtain ⟨inf, hinf, hsz, hby, hzz⟩ := T.hinf E sz by' z hi
  have hzs : z.cells.toList = k.enc x0 := by rw [cellsL_eq, hz]
  have hrow : ∀ c : Nat, (Array.range (c * sz)).map (fun i => z.cells[i % z.cells.size]!) = (row k (List.replicate c x0)).toArray := by
    intro c
    have hsz : z.cells.size = sz := by have := k.len x0; rw [← hzs] at this; simpa [hk] using this
    have hp : 0 < sz := hk ▸ k.pos
    apply Array.ext
    · simp [row_length, hk]
    · intro j h1 h2
      simp at h1
      simp only [Array.getElem_map, Array.getElem_range, List.getElem_toArray]
      have hq : j / sz < c := by rw [Nat.div_lt_iff_lt_mul hp]; exact h1
      have hr : j % sz < sz := Nat.mod_lt _ hp
      have hg := row_get k (List.replicate c x0) (j / sz) (j % sz) (by simpa using hq) (by rw [hk]; exact hr)
      rw [hk, Nat.div_add_mod' j sz] at hg
      simp only [List.getElem_replicate] at hg
      rw [hsz]
      have h3 : z.cells[j % sz]? = (k.enc x0)[j % sz]? := by rw [← hzs]; simp
      rw [← h3] at hg
      rw [List.getElem?_eq_getElem (by simpa using h2)] at hg
      rw [getElem!_pos z.cells (j % sz) (by rw [hsz]; exact hr)]
      rw [Array.getElem?_eq_getElem (by rw [hsz]; exact hr)] at hg
      exact (Option.some.inj hg).symm
  have hwr : IntKind.i64.wrap m = m := by unfold IntKind.wrap IntKind.signed IntKind.bits; simp; omega
  refine ⟨⟨(some ⟨w.heap.size, 0, none⟩, m.toNat, [(w.heap.size, .cells (row k (List.replicate m.toNat x0)).toArray E (0, 0))]), .inr ⟨w.heap.size, [], [], rfl, by simp, by simp, by simp⟩⟩,
    w.alloc (.cells (row k (List.replicate m.toNat x0)).toArray E), ?_, own_group_new _ ow⟩
  unfold execOp
  have h4 : ¬ m < 0 := by omega
  have h5 : ¬ (281474976710656 < (by' : Int) * m) := by omega
  by_cases hc : m.toNat * sz = 0
  · have hz0 : m.toNat = 0 := by
      rcases Nat.mul_eq_zero.1 hc with h | h
      · exact h
      · have := k.pos; omega
    have : m = 0 := by omega
    subst this
    simp [hop, ev_eval s hx, ev_eval s hy, Instr.makeSlice, run_und hu, asInt, asIntOf, typeInfo, hinf, hby, hwr, run_size hi, newRow, row_nil]
    have e : (Array.range 0).map (fun _ => (default : Value)) = #[] := by apply Array.ext'; simp
    rw [e]
  · simp [hop, ev_eval s hx, ev_eval s hy, Instr.makeSlice, run_und hu, asInt, asIntOf, typeInfo, hinf, hby, hwr, h4, h5, run_size hi, hc, run_zero hi, newRow, hrow]
end rules
end

section
variable {W : World}
variable {P : Program}

/-- a callee's promise: called over these blocks it returns one of these values, and leaves these blocks -/
def CallsTo (P : Program) (f : FuncId) (args : Array Value) (H : Hp) {β : Type} (V : β → Value) (G : β → Hp) : Prop :=
  ∀ W w, Own W w H → Calls P f args w fun e w' => ∃ b, e = .returned (V b) ∧ Own W w' (G b)

theorem CallsTo.imp {f : FuncId} {args : Array Value} {H H' : Hp} {β γ : Type} {V : β → Value} {G : β → Hp} {V' : γ → Value} {G' : γ → Hp} (h : CallsTo P f args H V G)
    (hh : ∀ W w, Own W w H' → Own W w H) (hg : ∀ b, ∃ c, V b = V' c ∧ ∀ W w, Own W w (G b) → Own W w (G' c)) : CallsTo P f args H' V' G' :=
  fun W w ow => (h W w (hh W w ow)).mono fun _ w' ⟨b, he, o⟩ => let ⟨c, hc, hw⟩ := hg b; ⟨c, he.trans (by rw [hc]), hw W w' o⟩

/-- the program has the function, with a body -/
structure Has (P : Program) (f : FuncId) : Prop where
  has : ∃ fn, P.funcs[f]? = some fn ∧ (fn.name == "runtime.NumGoroutine") = false ∧ fn.body.isNone = false

theorem Has.run {f : FuncId} (h : Has P f) (args : Array Value) (w : World) : (callFunc f args).run P w = .ok (.enter f args) w := by
  obtain ⟨fn, h1, h2, h3⟩ := h.has
  simp only [callFunc, Sem.run_bind, run_program, Result.andThen_ok, h1]
  simp [h2, h3]

def sel : List Nat → List Hp → List Hp × List Hp
  | [], HL => ([], HL)
  | j :: js, HL => match idx j HL with
    | some A => (A :: (sel js (HL.eraseIdx j)).1, (sel js (HL.eraseIdx j)).2)
    | none => ([], HL)

theorem sel_perm : ∀ (js : List Nat) (HL : List Hp), HL.flatten.Perm ((sel js HL).1.flatten ++ (sel js HL).2.flatten)
  | [], HL => by simp [sel]
  | j :: js, HL => by
    unfold sel
    cases hj : idx j HL with
    | none => simp
    | some A =>
      rw [idx_eq] at hj
      refine (flatten_erase HL j A hj).trans ?_
      simp only [List.flatten_cons, List.append_assoc]
      exact List.Perm.append_left A (sel_perm js (HL.eraseIdx j))

theorem sel_perm' {js : List Nat} {HL As R : List Hp} (h : sel js HL = (As, R)) : HL.flatten.Perm (As.flatten ++ R.flatten) := by
  have := sel_perm js HL; rw [h] at this; exact this

section rules
variable {T : Ty P} {n : Nat} {Q : Exit → Act → World → Prop} {env : Env} {HL : List Hp} {ops : Array Oper} {i : Nat} {K : Act → World → Prop} {o : Oper}

theorem run_call {t : Array Value} {c : Operand} {args : Array Operand} {types : Array TypeId} {f : FuncId} {first captured : Array Value} {vs as : List Value} (w : World) (s : Slots n t env)
    (hop : o.op = .call ⟨.value c, args, types⟩) (hc : ev env c = some (.func (.func f) first captured)) (ha : args.toList.mapM (ev env) = some vs) (hf : Has P f)
    (has : first.toList ++ (vs ++ captured.toList) = as) : (execOp (Act.eval ⟨t, []⟩) o).run P w = .ok (.enter f as.toArray) w := by
  have h1 : args.map (Act.eval ⟨t, []⟩) = vs.toArray := by
    rw [← evs_eval s ha]; apply Array.ext'; simp
  have h2 : first ++ vs.toArray ++ captured = as.toArray := by
    rw [← has]; apply Array.ext'; simp
  unfold execOp
  simp only [hop, resolve, ev_eval s hc, h1, Deferred.ofValue, Sem.run_bind, Sem.run_pure, Result.andThen_ok, invoke]
  rw [h2]
  exact hf.run _ w

/-- a call: the groups that it takes, by their numbers; what is left; what it lays down -/
theorem at_callf {d : Nat} {c : Operand} {args : Array Operand} {types : Array TypeId} {f : FuncId} {first captured : Array Value} {vs as : List Value} {β : Type} {V : β → Value} {B : β → List Hp} {As R : List Hp}
    (js : List Nat) (ho : ops[i]? = some o) (hw : want ops env o = some true) (hd : o.dst = some d) (hn : d < n)
    (hop : o.op = .call ⟨.value c, args, types⟩) (hc : ev env c = some (.func (.func f) first captured)) (ha : args.toList.mapM (ev env) = some vs) (hf : Has P f)
    (has : first.toList ++ (vs ++ captured.toList) = as) (hs : sel js HL = (As, R))
    (hcall : CallsTo P f as.toArray (As.flatten ++ R.flatten) V (fun b => (B b).flatten ++ R.flatten))
    (h : ∀ b, AtL W n K ((d, V b) :: env) (R ++ B b)) : AtL W n (wpOp P ops Q i K) env HL := by
  refine at_call (G := fun b => (R ++ B b).flatten) ho hw hd hn (fun t w s _ => run_call w s hop hc ha hf has) (fun w ow => ?_) h
  refine (hcall W w (ow.perm (sel_perm' hs))).mono fun e w' ⟨b, he, o'⟩ => ⟨b, he, ?_⟩
  rw [List.flatten_append]
  exact o'.perm List.perm_append_comm

theorem at_callf_none {c : Operand} {args : Array Operand} {types : Array TypeId} {f : FuncId} {first captured : Array Value} {vs as : List Value} {β : Type} {V : β → Value} {B : β → List Hp} {As R : List Hp}
    (js : List Nat) (ho : ops[i]? = some o) (hw : want ops env o = some true) (hd : o.dst = none)
    (hop : o.op = .call ⟨.value c, args, types⟩) (hc : ev env c = some (.func (.func f) first captured)) (ha : args.toList.mapM (ev env) = some vs) (hf : Has P f)
    (has : first.toList ++ (vs ++ captured.toList) = as) (hs : sel js HL = (As, R))
    (hcall : CallsTo P f as.toArray (As.flatten ++ R.flatten) V (fun b => (B b).flatten ++ R.flatten))
    (h : ∀ b, AtL W n K env (R ++ B b)) : AtL W n (wpOp P ops Q i K) env HL := by
  refine at_call_none (V := V) (G := fun b => (R ++ B b).flatten) ho hw hd (fun t w s _ => run_call w s hop hc ha hf has) (fun w ow => ?_) h
  refine (hcall W w (ow.perm (sel_perm' hs))).mono fun e w' ⟨b, he, o'⟩ => ⟨b, he, ?_⟩
  rw [List.flatten_append]
  exact o'.perm List.perm_append_comm

/-! ### regions that draw their order: what only reads -/
variable {H : Hp}
/-- each operation of the region gives one value, whatever world it is that owns these blocks -/
def AtQ (W : World) (P : Program) (n : Nat) (ops : Array Oper) (H : Hp) (l : List Oper) (F : Act → Prop) (env : Env) : Prop :=
  ∀ t, Slots n t env → wpQuiet P ops (fun w => Own W w H) F l ⟨t, []⟩

theorem at_region_q {id : Nat} (hm : P.follows .mixedOrders = true) (hB : Region.lexB .any ops = true) (h : AtQ W P n ops H ops.toList (fun a => ∀ w, Own W w H → Q .normal a w) env) :
    At W n ((Code.region id ops true).wp P Q) env H :=
  fun t w s ow => wp_region_quiet (C := fun w => Own W w H) hm hB ow.drew (h t s)

theorem atq_end {F : Act → World → Prop} (h : At W n F env H) : AtQ W P n ops H [] (fun a => ∀ w, Own W w H → F a w) env :=
  fun t s w ow => h t w s ow

theorem atq_no {d : Nat} {l : List Oper} {F : Act → Prop} (hw : want ops env o = some false) (hd : o.dst = some d) (hn : d < n)
    (h : AtQ W P n ops H l F ((d, undef) :: env)) : AtQ W P n ops H (o :: l) F env := by
  intro t s
  simp only [wpQuiet]
  have h1 : Region.wanted o (yielded ops t) = false := want_wanted s hw
  rw [if_neg (by simp [h1])]
  have := h _ (s.put (v := undef) hn)
  simpa [Act.put, hd] using this

theorem atq_val {d : Nat} {v : Value} {l : List Oper} {F : Act → Prop} (hw : want ops env o = some true) (hd : o.dst = some d) (hn : d < n)
    (hv : ∀ t w, Slots n t env → Own W w H → (execOp (Act.eval ⟨t, []⟩) o).run P w = .ok (.value v) w)
    (h : AtQ W P n ops H l F ((d, v) :: env)) : AtQ W P n ops H (o :: l) F env := by
  intro t s
  simp only [wpQuiet]
  have h1 : Region.wanted o (yielded ops t) = true := want_wanted s hw
  rw [if_pos h1]
  refine ⟨v, fun w ow => ?_, ?_⟩
  · unfold Oper.quietAt
    rw [hv t w s ow]
    exact ⟨rfl, rfl⟩
  · have := h _ (s.put (v := v) hn)
    simpa [Act.put, hd] using this

theorem atq_p (T : Ty P) {d : Nat} {v : Value} {l : List Oper} {F : Act → Prop} (hw : want ops env o = some true) (hd : o.dst = some d) (hn : d < n)
    (hv : pureVal T env o.op = some v) (h : AtQ W P n ops H l F ((d, v) :: env)) : AtQ W P n ops H (o :: l) F env :=
  atq_val hw hd hn (fun _ w s _ => pureVal_run s hv w) h

theorem atq_callf {d : Nat} {c : Operand} {args : Array Operand} {types : Array TypeId} {f : FuncId} {first captured : Array Value} {vs as : List Value} {v : Value} {l : List Oper} {F : Act → Prop}
    (hw : want ops env o = some true) (hd : o.dst = some d) (hn : d < n)
    (hop : o.op = .call ⟨.value c, args, types⟩) (hc : ev env c = some (.func (.func f) first captured)) (ha : args.toList.mapM (ev env) = some vs) (hf : Has P f)
    (has : first.toList ++ (vs ++ captured.toList) = as)
    (hcall : CallsTo P f as.toArray H (fun _ : Unit => v) (fun _ => H))
    (h : AtQ W P n ops H l F ((d, v) :: env)) : AtQ W P n ops H (o :: l) F env := by
  intro t s
  simp only [wpQuiet]
  have h1 : Region.wanted o (yielded ops t) = true := want_wanted s hw
  rw [if_pos h1]
  refine ⟨v, fun w ow => ?_, ?_⟩
  · unfold Oper.quietAt
    rw [run_call w s hop hc ha hf has]
    exact ⟨rfl, (hcall W w ow).mono fun e w' ⟨_, he, o'⟩ => ⟨he, o'⟩⟩
  · have := h _ (s.put (v := v) hn)
    simpa [Act.put, hd] using this
end rules
end

section
variable {W : World}
variable {P : Program}

def lkT {α : Type} (t : Nat) : List (Nat × α) → Option α
  | [] => none
  | e :: r => bif Nat.beq t e.1 then some e.2 else lkT t r

def AllT {α : Type} (p : Nat → α → Prop) : List (Nat × α) → Prop
  | [] => True
  | e :: r => p e.1 e.2 ∧ AllT p r

theorem lkT_all {α : Type} {p : Nat → α → Prop} : ∀ {l : List (Nat × α)} {t : Nat} {d : α}, AllT p l → lkT t l = some d → p t d
  | [], _, _, _, h => by cases h
  | e :: r, t, d, ha, h => by
    unfold lkT at h
    cases hb : Nat.beq t e.1 with
    | true => rw [hb] at h; simp at h; rw [Nat.eq_of_beq_eq_true hb, ← h]; exact ha.1
    | false => rw [hb] at h; exact lkT_all ha.2 h

def Ty.of (us : List (Nat × TypeDesc)) (is : List (Nat × (Nat × Nat × Value))) (hu : AllT (fun t d => P.underlying t = some d) us)
    (hi : AllT (fun t d => ((P.info? t).map fun i => (i.size, i.bytes, i.zero)) = some (d.1, d.2.1, some d.2.2)) is) : Ty P where
  und t := lkT t us
  inf t := lkT t is
  hund t d h := lkT_all hu h
  hinf t s b z h := by
    have := lkT_all hi h
    cases hinf : P.info? t with
    | none => simp [hinf] at this
    | some i => simp [hinf] at this; exact ⟨i, rfl, this⟩
end

section
variable {W : World}
variable {P : Program}

/-- what is asked of a panic hangs on no slot -/
def PF (Q : Exit → Act → World → Prop) : Prop := ∀ c a d v w, Q (.panic c) (Act.put a d v) w → Q (.panic c) a w
theorem pf_body {fn : Func} {R : Ending → World → Prop} : PF (bodyPost P fn R) := fun c a d v w h => by
  cases d <;> exact h
theorem pf_then {K : Act → World → Prop} {Q : Exit → Act → World → Prop} (h : PF Q) : PF (Exit.then K Q) := fun c a d v w => h c a d v w
theorem pf_block {id : Nat} {Q : Exit → Act → World → Prop} (h : PF Q) : PF (Exit.inBlock id Q) := fun c a d v w => h c a d v w

/-- in a region that draws its order: the blocks H0 stay as they are throughout -/
def AtH (W : World) (P : Program) (n : Nat) (ops : Array Oper) (Q : Exit → Act → World → Prop) (H0 : Hp) (fuel : Nat) (listed : Array Bool) (env : Env) (H : Hp) : Prop :=
  ∀ t w, Slots n t env → Own W w H → wpAnyH P .any ops Q (fun w => Own W w H0) fuel listed ⟨t, []⟩ w

variable {T : Ty P} {n : Nat} {Q : Exit → Act → World → Prop} {env : Env} {H H0 : Hp} {ops : Array Oper} {i : Nat} {o : Oper} {fuel : Nat} {listed : Array Bool}

theorem at_region_h (H0 : Hp) {id : Nat} (hm : P.follows .mixedOrders = true) (h : AtH W P n ops Q H0 ops.size (Array.replicate ops.size false) env H) :
    At W n ((Code.region id ops true).wp P Q) env H :=
  fun t w s ow => wp_region_held hm (h t _ s ow.drew)

theorem ath_take {d : Nat} {v : Value} (hpf : PF Q) (hS : ∀ w, Own W w H → Own W w H0) (hs : Region.noSelect ops = true) (hf : Region.free .any ops listed i = true) (hr : (Region.ready .any ops listed).contains i = true)
    (ho : ops[i]? = some o) (hw : want ops env o = some true) (hd : o.dst = some d) (hn : d < n)
    (hv : ∀ t w, Slots n t env → Own W w H0 → (execOp (Act.eval ⟨t, []⟩) o).run P w = .ok (.value v) w)
    (h : AtH W P n ops Q H0 fuel (listed.setIfInBounds i true) ((d, v) :: env) H) : AtH W P n ops Q H0 (fuel + 1) listed env H := by
  intro t w s ow
  refine wpAnyH_take (v := v) ho hs hf hr (fun c a w' => hpf c a o.dst v w') (.inl ⟨want_wanted s hw, fun w' hw' => hv t w' s hw'⟩) (hS w ow) ?_
  have := h _ w (s.put (v := v) hn) ow
  simpa [Act.put, hd] using this

theorem ath_no {d : Nat} (hpf : PF Q) (hS : ∀ w, Own W w H → Own W w H0) (hs : Region.noSelect ops = true) (hf : Region.free .any ops listed i = true) (hr : (Region.ready .any ops listed).contains i = true)
    (ho : ops[i]? = some o) (hw : want ops env o = some false) (hd : o.dst = some d) (hn : d < n)
    (h : AtH W P n ops Q H0 fuel (listed.setIfInBounds i true) ((d, undef) :: env) H) : AtH W P n ops Q H0 (fuel + 1) listed env H := by
  intro t w s ow
  refine wpAnyH_take (v := undef) ho hs hf hr (fun c a w' => hpf c a o.dst undef w') (.inr ⟨want_wanted s hw, rfl⟩) (hS w ow) ?_
  have := h _ w (s.put (v := undef) hn) ow
  simpa [Act.put, hd] using this

theorem ath_p (T : Ty P) {d : Nat} {v : Value} (hpf : PF Q) (hS : ∀ w, Own W w H → Own W w H0) (hs : Region.noSelect ops = true) (hf : Region.free .any ops listed i = true) (hr : (Region.ready .any ops listed).contains i = true)
    (ho : ops[i]? = some o) (hw : want ops env o = some true) (hd : o.dst = some d) (hn : d < n) (hv : pureVal T env o.op = some v)
    (h : AtH W P n ops Q H0 fuel (listed.setIfInBounds i true) ((d, v) :: env) H) : AtH W P n ops Q H0 (fuel + 1) listed env H :=
  ath_take hpf hS hs hf hr ho hw hd hn (fun _ w s _ => pureVal_run s hv w) h

/-- one alone may come up -/
theorem ath_only (hr : Region.ready .any ops listed = [i])
    (h : At W n (wpOp P ops Q i (fun a' w' => Own W w' H0 ∧ wpAnyH P .any ops Q (fun w => Own W w H0) fuel (listed.setIfInBounds i true) a' w')) env H) : AtH W P n ops Q H0 (fuel + 1) listed env H := by
  intro t w s ow
  exact wpAnyH_all hr (by simp) fun j hj => by
    simp at hj; subst hj; exact h t w s ow

theorem ath_two {j : Nat} (hr : Region.ready .any ops listed = [i, j])
    (h1 : At W n (wpOp P ops Q i (fun a' w' => Own W w' H0 ∧ wpAnyH P .any ops Q (fun w => Own W w H0) fuel (listed.setIfInBounds i true) a' w')) env H)
    (h2 : At W n (wpOp P ops Q j (fun a' w' => Own W w' H0 ∧ wpAnyH P .any ops Q (fun w => Own W w H0) fuel (listed.setIfInBounds j true) a' w')) env H) : AtH W P n ops Q H0 (fuel + 1) listed env H := by
  intro t w s ow
  exact wpAnyH_all hr (by simp) fun k hk => by
    simp at hk; rcases hk with rfl | rfl
    · exact h1 t w s ow
    · exact h2 t w s ow

theorem ath_next (hS : ∀ w, Own W w H → Own W w H0) (h : AtH W P n ops Q H0 fuel listed env H) :
    At W n (fun a' w' => Own W w' H0 ∧ wpAnyH P .any ops Q (fun w => Own W w H0) fuel listed a' w') env H := by
  intro t w s ow
  exact ⟨hS w ow, h t w s ow⟩

theorem ath_done (hr : Region.ready .any ops listed = []) (h : At W n (Q .normal) env H) : AtH W P n ops Q H0 fuel listed env H :=
  fun t w s ow => wpAnyH_done hr (h t w s ow) fuel
end

section
variable {W : World}
variable {P : Program}
section rules
variable {T : Ty P} {n : Nat} {Q : Exit → Act → World → Prop} {env : Env} {H : Hp} {ops : Array Oper} {i : Nat} {rest : List Nat}

def stepP (T : Ty P) (n : Nat) (ops : Array Oper) (env : Env) (i : Nat) : Option (Nat × Value) :=
  match ops[i]? with
  | none => none
  | some o => match want ops env o, o.dst with
    | some true, some d => bif Nat.blt d n then (match pureVal T env o.op with | some v => some (d, v) | none => none) else none
    | some false, some d => bif Nat.blt d n then some (d, undef) else none
    | _, _ => none

theorem at_s (T : Ty P) {e : Nat × Value} (hs : stepP T n ops env i = some e) (h : At W n (wpOps P ops Q rest) (e :: env) H) : At W n (wpOps P ops Q (i :: rest)) env H := by
  refine at_cons ?_
  unfold stepP at hs
  split at hs
  · cases hs
  · rename_i o ho
    split at hs
    · rename_i d hw hd
      cases hb : Nat.blt d n with
      | false => simp [hb] at hs
      | true =>
        simp only [hb, cond_true] at hs
        split at hs
        · rename_i v hv
          simp at hs; subst hs
          exact at_p T ho hw hd (by simpa using hb) hv h
        · cases hs
    · rename_i d hw hd
      cases hb : Nat.blt d n with
      | false => simp [hb] at hs
      | true =>
        simp [hb] at hs; subst hs
        exact at_no ho hw hd (by simpa using hb) h
    · cases hs

def runP (T : Ty P) (n : Nat) (ops : Array Oper) : List Nat → Env → Option Env
  | [], env => some env
  | i :: r, env => match stepP T n ops env i with
    | some e => runP T n ops r (e :: env)
    | none => none

/-- a run of plain operations -/
theorem at_run (T : Ty P) (l1 : List Nat) {l2 : List Nat} {env' : Env} (hr : runP T n ops l1 env = some env') (h : At W n (wpOps P ops Q l2) env' H) : At W n (wpOps P ops Q (l1 ++ l2)) env H := by
  induction l1 generalizing env with
  | nil => simp [runP] at hr; subst hr; exact h
  | cons i r ih =>
    simp only [runP] at hr
    split at hr
    · rename_i e he
      exact at_s T he (ih hr)
    · cases hr

theorem at_app {l1 l2 : List Nat} {K : Act → World → Prop} (hK : ∀ a w, K a w → wpOps P ops Q l2 a w) : ∀ (env : Env), At W n (l1.foldr (fun i K => wpOp P ops Q i K) K) env H → At W n (wpOps P ops Q (l1 ++ l2)) env H := by
  intro env h t w s ow
  have := h t w s ow
  clear h s ow
  revert this
  generalize (⟨t, []⟩ : Act) = a
  induction l1 generalizing a w with
  | nil => exact fun h => hK _ _ h
  | cons i r ih =>
    intro h
    show wpOps P ops Q (i :: (r ++ l2)) a w
    rw [wpOps_cons]
    exact wpOp_mono (fun a w h => ih w a h) h

/-- one operation, the slots alone -/
theorem step_slots (T : Ty P) {e : Nat × Value} (hs : stepP T n ops env i = some e) {K : Act → World → Prop} (h : At W n K (e :: env) H) : At W n (wpOp P ops Q i K) env H := by
  unfold stepP at hs
  split at hs
  · cases hs
  · rename_i o ho
    split at hs
    · rename_i d hw hd
      cases hb : Nat.blt d n with
      | false => simp [hb] at hs
      | true =>
        simp only [hb, cond_true] at hs
        split at hs
        · rename_i v hv
          simp at hs; subst hs
          exact at_p T ho hw hd (by simpa using hb) hv h
        · cases hs
    · rename_i d hw hd
      cases hb : Nat.blt d n with
      | false => simp [hb] at hs
      | true =>
        simp [hb] at hs; subst hs
        exact at_no ho hw hd (by simpa using hb) h
    · cases hs

theorem run_slots (T : Ty P) (l : List Nat) {env' : Env} {K : Act → World → Prop} (hr : runP T n ops l env = some env') (h : At W n K env' H) : At W n (l.foldr (fun i K => wpOp P ops Q i K) K) env H := by
  induction l generalizing env with
  | nil => simp [runP] at hr; subst hr; exact h
  | cons i r ih =>
    simp only [runP] at hr
    split at hr
    · rename_i e he
      exact step_slots T he (ih hr)
    · cases hr

/-- nothing that is known is lost -/
def keeps (env : Env) : List (Nat × Value) → Prop
  | [] => True
  | e :: r => lk e.1 env = none ∧ keeps env r

/-- a fact by cases of a slot's truth -/
theorem at_case {s : Nat} {c : Bool} {F : Act → World → Prop} (hs : lk s env = some (.bool c)) (ht : c = true → At W n F ((s, .bool true) :: env) H) (hf : c = false → At W n F ((s, .bool false) :: env) H) : At W n F env H := by
  intro t w sl ow
  have key : ∀ b, c = b → Slots n t ((s, .bool b) :: env) := fun b hb => ⟨sl.1, fun k v hk => by
    simp only [lk] at hk
    by_cases h : k = s
    · subst h
      have : Nat.beq k k = true := by simp
      rw [this] at hk; simp at hk
      rw [← hk, ← hb]; exact sl.2 k _ hs
    · rw [beq_ff h] at hk; exact sl.2 k v hk⟩
  cases hc : c
  · exact hf hc t w (key _ hc) ow
  · exact ht hc t w (key _ hc) ow

/-- two ways through some operations that meet again -/
theorem at_join {l1 l2 : List Nat} {s : Nat} {c : Bool} (env' : Env) (hs : lk s env = some (.bool c))
    (ht : c = true → At W n (l1.foldr (fun i K => wpOp P ops Q i K) (fun a w => ∃ t, a = ⟨t, []⟩ ∧ Slots n t env' ∧ Own W w H)) ((s, .bool true) :: env) H)
    (hf : c = false → At W n (l1.foldr (fun i K => wpOp P ops Q i K) (fun a w => ∃ t, a = ⟨t, []⟩ ∧ Slots n t env' ∧ Own W w H)) ((s, .bool false) :: env) H)
    (h : At W n (wpOps P ops Q l2) env' H) : At W n (wpOps P ops Q (l1 ++ l2)) env H :=
  at_case hs
    (fun hc => at_app (fun _ _ ⟨t, e, sl, ow⟩ => e ▸ h t _ sl ow) _ (ht hc))
    (fun hc => at_app (fun _ _ ⟨t, e, sl, ow⟩ => e ▸ h t _ sl ow) _ (hf hc))

theorem at_meet {env' : Env} (hs : sub env' env) : At W n (fun a w => ∃ t, a = ⟨t, []⟩ ∧ Slots n t env' ∧ Own W w H) env H :=
  fun t _ sl ow => ⟨t, rfl, sl.sub hs, ow⟩

/-- a group of plain operations, guarded by a slot, and what is chosen behind it: what the choice gives in either case -/
theorem at_grp (T : Ty P) (l1 : List Nat) {l2 : List Nat} {s : Nat} {c : Bool} {e1 e2 : Env} (env' : Env) (hs : lk s env = some (.bool c))
    (h1 : runP T n ops l1 ((s, .bool true) :: env) = some e1) (h2 : runP T n ops l1 ((s, .bool false) :: env) = some e2) (k1 : c = true → sub env' e1) (k2 : c = false → sub env' e2)
    (h : At W n (wpOps P ops Q l2) env' H) : At W n (wpOps P ops Q (l1 ++ l2)) env H :=
  at_join env' hs (fun hc => run_slots T l1 h1 (at_meet (k1 hc))) (fun hc => run_slots T l1 h2 (at_meet (k2 hc))) h
end rules
end

section
variable {W : World}
variable {P : Program}
abbrev w64 (x : Int) : Int := IntKind.i64.wrap x
abbrev wu8 (x : Int) : Int := IntKind.u8.wrap x
abbrev wu32 (x : Int) : Int := IntKind.u32.wrap x
abbrev wu64 (x : Int) : Int := IntKind.u64.wrap x

/-- rounds: more than any loop of a program may go -/
@[irreducible] def fuel : Nat := 18446744073709551616

theorem chk_e {c : Prop} [Decidable c] {α : Type} {x : Option α} {r : α} (h : (if c then x else none) = some r) : c ∧ x = some r := by
  split at h
  · exact ⟨‹_›, h⟩
  · cases h
theorem if_t {c : Prop} [Decidable c] {α : Type} {x y r : α} (hc : c) (h : (if c then x else y) = r) : x = r := by rw [if_pos hc] at h; exact h
theorem if_f {c : Prop} [Decidable c] {α : Type} {x y r : α} (hc : ¬ c) (h : (if c then x else y) = r) : y = r := by rw [if_neg hc] at h; exact h
theorem bind_e {α β : Type} {x : Option α} {f : α → Option β} {r : β} (h : x.bind f = some r) : ∃ v, x = some v ∧ f v = some r := Option.bind_eq_some_iff.1 h
theorem bf {b : Bool} (h : b = false) : ¬ b = true := by simp [h]

section rules
variable {T : Ty P} {n : Nat} {Q : Exit → Act → World → Prop} {env : Env} {H : Hp} {K : Act → World → Prop}

theorem at_xt {id : Nat} (h : At W n (Q (.exit id)) env H) : At W n (Exit.then K Q (.exit id)) env H := h
theorem at_rt (h : At W n (Q .ret) env H) : At W n (Exit.then K Q .ret) env H := h
theorem at_rb {id : Nat} (h : At W n (Q .ret) env H) : At W n (Exit.inBlock id Q .ret) env H := h
theorem at_nb {id : Nat} (h : At W n (Q .normal) env H) : At W n (Exit.inBlock id Q .normal) env H := h
theorem at_xb {id : Nat} (h : At W n (Q .normal) env H) : At W n (Exit.inBlock id Q (.exit id)) env H := fun t w s o => by
  have := h t w s o
  simpa [Exit.inBlock] using this
theorem at_xn {id id' : Nat} (hne : Nat.beq id' id = false) (h : At W n (Q (.exit id')) env H) : At W n (Exit.inBlock id Q (.exit id')) env H := fun t w s o => by
  have := h t w s o
  have hn : ¬ id' = id := fun e => by subst e; simp at hne
  simpa [Exit.inBlock, hn] using this

/-- ways that meet: the states in which they do -/
def Mid {σ : Type} (W : World) (n : Nat) (I : σ → Prop) (E : σ → Env) (G : σ → List Hp) : Act → World → Prop := fun a w =>
  ∃ s, I s ∧ ∃ t, a = ⟨t, []⟩ ∧ Slots n t (E s) ∧ Own W w (G s).flatten

theorem at_mid {HL : List Hp} {σ : Type} {I : σ → Prop} {E : σ → Env} {G : σ → List Hp} (s : σ) (js : List Nat) (hi : I s) (hs : sub (E s) env) (hh : pick js HL = G s) : AtL W n (Mid W n I E G) env HL :=
  fun t w sl o => ⟨s, hi, t, rfl, sl.sub hs, hh ▸ own_pick0 js o⟩

theorem at_seq_mid {x y : Code} {σ : Type} (I : σ → Prop) (E : σ → Env) (G : σ → List Hp) (h1 : At W n (x.wp P (Exit.then (Mid W n I E G) Q)) env H)
    (h2 : ∀ s, I s → AtL W n (y.wp P Q) (E s) (G s)) : At W n ((Code.seq x y).wp P Q) env H := by
  refine at_seq (h1.mono fun a w h => wp_mono h fun e a w h => ?_)
  cases e with
  | normal =>
    obtain ⟨s, hi, t, rfl, sl, o⟩ := h
    exact h2 s hi t w sl o
  | _ => exact h

/-- a loop over groups -/
theorem at_loopL {c : Code} {HL : List Hp} {σ : Type} (I : σ → Prop) (E : σ → Env) (G : σ → List Hp) (m : σ → Nat) (s0 : σ) (js : List Nat) (hi : I s0) (hs : sub (E s0) env) (hh : pick js HL = G s0)
    (round : ∀ s, I s → AtL W n (c.wp P (Exit.then (Round W n I E (fun s => (G s).flatten) m s) Q)) (E s) (G s)) : AtL W n ((Code.loop c).wp P Q) env HL :=
  at_loop I E (fun s => (G s).flatten) m s0 hi hs (fun _ o => hh ▸ own_pick0 js o) round

theorem at_roundL {HL : List Hp} {σ : Type} {I : σ → Prop} {E : σ → Env} {G : σ → List Hp} {m : σ → Nat} {s : σ} (s' : σ) (js : List Nat) (hi : I s') (hm : m s' < m s) (hs : sub (E s') env) (hh : pick js HL = G s') :
    AtL W n (Round W n I E (fun s => (G s).flatten) m s) env HL :=
  at_round s' hi hm hs (fun _ o => hh ▸ own_pick0 js o)

/-! ### what a function returns -/
inductive Res (T : Ty P) (env : Env) (H : Hp) : List ResultVar → List Value → Prop
  | nil : Res T env H [] []
  | tmp {t : Nat} {v : Value} {rs : List ResultVar} {vs : List Value} (h : lk t env = some v) (r : Res T env H rs vs) : Res T env H (.tmp t :: rs) (v :: vs)
  | cell {a b off t : Nat} {td : TypeDesc} {arr : Array Value} {E : TypeId} {fr : Nat × Nat} {v : Value} {rs : List ResultVar} {vs : List Value} (h : lk a env = some (.pointer (some ⟨b, off, none⟩)))
      (hu : T.und t = some td) (ha : aggT td = false) (hm : (b, Obj.cells arr E fr) ∈ H) (hc : arr[off]? = some v) (r : Res T env H rs vs) : Res T env H (.cell a t :: rs) (v :: vs)
  | agg {a b off t : Nat} {td : TypeDesc} {arr : Array Value} {E : TypeId} {fr : Nat × Nat} {cs : List Value} {sz by' : Nat} {z : Value} {rs : List ResultVar} {vs : List Value} (h : lk a env = some (.pointer (some ⟨b, off, none⟩)))
      (hu : T.und t = some td) (ha : aggT td = true) (hi : T.inf t = some (sz, by', z)) (hm : (b, Obj.cells arr E fr) ∈ H) (hl : cs.length = sz) (hc : ∀ j v, cs[j]? = some v → arr[off + j]? = some v)
      (r : Res T env H rs vs) : Res T env H (.cell a t :: rs) (.agg cs.toArray :: vs)

theorem run_mapM_cons {α β : Type} {f : α → Sem β} {x : α} {l : List α} {v : β} {vs : List β} {w : World} (h1 : (f x).run P w = .ok v w) (h2 : (l.mapM f).run P w = .ok vs w) :
    ((x :: l).mapM f).run P w = .ok (v :: vs) w := by
  rw [List.mapM_cons, Sem.run_bind, h1, Result.andThen_ok, Sem.run_bind, h2]; rfl

theorem Res.run {t : Array Value} {w : World} {rs : List ResultVar} {vs : List Value} (h : Res T env H rs vs) (s : Slots n t env) (o : Own W w H) :
    (rs.mapM fun (r : ResultVar) => (match r with
      | .tmp k => pure (t.getD k undef)
      | .cell a ty => do loadVar ty (← asAddr (t.getD a undef)) : Sem Value)).run P w = .ok vs w := by
  have hget : ∀ k v, lk k env = some v → t.getD k undef = v := fun k v hk => by
    have := s.2 k v hk; simp [Array.getD_eq_getD_getElem?, this]
  induction h with
  | nil => rfl
  | tmp h r ih => exact run_mapM_cons (by simp only [hget _ _ h]; rfl) ih
  | cell h hu ha hm hc r ih =>
    have hcell := o.cell hm hc
    refine run_mapM_cons ?_ ih
    simp only [hget _ _ h, asAddr, loadVar, Sem.run_bind, Sem.run_pure, Result.andThen_ok, run_isAgg hu, ha, Bool.false_eq_true, if_false, run_load, hcell]
  | agg h hu ha hi hm hl hc r ih =>
    rename_i cs sz _ _ _ _
    have h1 := run_loadCells_list' (P := P) w _ _ _ _ _ (o.lookup hm) sz cs 0 #[] hl (by simpa using hc)
    refine run_mapM_cons ?_ ih
    simp only [hget _ _ h, asAddr, loadVar, Sem.run_bind, Sem.run_pure, Result.andThen_ok, run_isAgg hu, ha, if_true, run_size hi, loadCells, h1]
    simp

def resV : List Value → Value
  | [v] => v
  | vs => .tuple vs.toArray

theorem at_post {fn : Func} {R : Ending → World → Prop} {HL : List Hp} {rs : List ResultVar} {vs : List Value} (hf : fn.results.toList = rs) (hr : Res T env HL.flatten rs vs)
    (h : ∀ w, Own W w HL.flatten → R (.returned (resV vs)) w) : AtL W n (bodyPost P fn R .ret) env HL := by
  intro t w s o
  refine ⟨rfl, resV vs, ?_, h w o⟩
  unfold results
  have h1 := hr.run (P := P) (w := w) s o
  rw [← hf] at h1
  simp only [Sem.run_bind]
  rw [Array.mapM_eq_mapM_toList, Sem.run_map]
  refine Eq.trans (congrArg (fun r => Result.andThen (Result.andThen r _) _) h1) ?_
  simp only [Result.andThen_ok, Sem.run_pure]
  congr 1
  match vs with
  | [] => simp [resV]
  | [v] => simp [resV]
  | v :: u :: r => simp [resV]

theorem at_post_n {fn : Func} {R : Ending → World → Prop} (h : At W n (bodyPost P fn R .ret) env H) : At W n (bodyPost P fn R .normal) env H := h
end rules
end

section
variable {W : World}
variable {P : Program}

/-- in every world with these slots and blocks the operation gives this, and leaves the world as it is -/
def Gives (W : World) (P : Program) (n : Nat) (env : Env) (H : Hp) (o : Oper) (v : Value) : Prop :=
  ∀ t w, Slots n t env → Own W w H → (execOp (Act.eval ⟨t, []⟩) o).run P w = .ok (.value v) w

/-- the operation is wanted; it, and its slot -/
def slot (n : Nat) (ops : Array Oper) (env : Env) (i : Nat) : Option (Oper × Nat) :=
  match ops[i]? with
  | none => none
  | some o => match want ops env o, o.dst with
    | some true, some d => bif Nat.blt d n then some (o, d) else none
    | _, _ => none

theorem slot_spec {n : Nat} {ops : Array Oper} {env : Env} {i : Nat} {o : Oper} {d : Nat} (h : slot n ops env i = some (o, d)) :
    ops[i]? = some o ∧ want ops env o = some true ∧ o.dst = some d ∧ d < n := by
  unfold slot at h
  split at h
  · cases h
  · rename_i o' ho
    split at h
    · rename_i d' hw hd
      cases hb : Nat.blt d' n with
      | false => simp [hb] at h
      | true =>
        simp only [hb, cond_true, Option.some.injEq, Prod.mk.injEq] at h
        obtain ⟨rfl, rfl⟩ := h
        exact ⟨ho, hw, hd, by simpa using hb⟩
    · cases h

section rules
variable {T : Ty P} {n : Nat} {Q : Exit → Act → World → Prop} {env : Env} {H H0 : Hp} {K : Act → World → Prop} {ops : Array Oper} {i d : Nat} {o : Oper} {v : Value} {rest : List Nat}

theorem at_g (hs : slot n ops env i = some (o, d)) (hv : Gives W P n env H o v) (h : At W n K ((d, v) :: env) H) : At W n (wpOp P ops Q i K) env H :=
  let ⟨ho, hw, hd, hn⟩ := slot_spec hs
  at_val ho hw hd hn hv h
theorem at_v (hs : slot n ops env i = some (o, d)) (hv : Gives W P n env H o v) (h : At W n (wpOps P ops Q rest) ((d, v) :: env) H) : At W n (wpOps P ops Q (i :: rest)) env H :=
  at_cons (at_g hs hv h)

theorem atq_v {l : List Oper} {F : Act → Prop} (hw : want ops env o = some true) (hd : o.dst = some d) (hn : Nat.blt d n = true) (hv : Gives W P n env H o v)
    (h : AtQ W P n ops H l F ((d, v) :: env)) : AtQ W P n ops H (o :: l) F env := atq_val hw hd (by simpa using hn) hv h

/-- a plain operation of a region whose order is drawn -/
def stepO (T : Ty P) (n : Nat) (ops : Array Oper) (env : Env) (o : Oper) : Option (Nat × Value) :=
  match want ops env o, o.dst with
  | some true, some d => bif Nat.blt d n then (match pureVal T env o.op with | some v => some (d, v) | none => none) else none
  | some false, some d => bif Nat.blt d n then some (d, undef) else none
  | _, _ => none

theorem atq_s (T : Ty P) {e : Nat × Value} {l : List Oper} {F : Act → Prop} (hs : stepO T n ops env o = some e) (h : AtQ W P n ops H l F (e :: env)) : AtQ W P n ops H (o :: l) F env := by
  unfold stepO at hs
  split at hs
  · rename_i d hw hd
    cases hb : Nat.blt d n with
    | false => simp [hb] at hs
    | true =>
      simp only [hb, cond_true] at hs
      split at hs
      · rename_i v hv
        simp at hs; subst hs
        exact atq_p T hw hd (by simpa using hb) hv h
      · cases hs
  · rename_i d hw hd
    cases hb : Nat.blt d n with
    | false => simp [hb] at hs
    | true =>
      simp [hb] at hs; subst hs
      exact atq_no hw hd (by simpa using hb) h
  · cases hs

theorem slots_case {t : Array Value} {s : Nat} {c b : Bool} (sl : Slots n t env) (hs : lk s env = some (.bool c)) (hb : c = b) : Slots n t ((s, .bool b) :: env) :=
  ⟨sl.1, fun k v hk => by
    simp only [lk] at hk
    by_cases h : k = s
    · subst h
      have : Nat.beq k k = true := by simp
      rw [this] at hk; simp at hk
      rw [← hk, ← hb]; exact sl.2 k _ hs
    · rw [beq_ff h] at hk; exact sl.2 k v hk⟩

theorem atq_case {s : Nat} {c : Bool} {l : List Oper} {F : Act → Prop} (hs : lk s env = some (.bool c)) (ht : c = true → AtQ W P n ops H l F ((s, .bool true) :: env)) (hf : c = false → AtQ W P n ops H l F ((s, .bool false) :: env)) : AtQ W P n ops H l F env := by
  intro t sl
  cases hc : c
  · exact hf hc t (slots_case sl hs hc)
  · exact ht hc t (slots_case sl hs hc)

theorem atq_sub {l : List Oper} {F : Act → Prop} (env' : Env) (hs : sub env' env) (h : AtQ W P n ops H l F env') : AtQ W P n ops H l F env :=
  fun t sl => h t (sl.sub hs)

/-! ### what operations give that read -/
theorem g_load (T : Ty P) {b off t : Nat} {x : Operand} {td : TypeDesc} (hop : o.op = .load t x) (hx : ev env x = some (.pointer (some ⟨b, off, none⟩)))
    (hu : T.und t = some td) (ha : aggT td = false) (hm : ∃ arr E fr, (b, Obj.cells arr E fr) ∈ H ∧ arr[off]? = some v) : Gives W P n env H o v := by
  intro t' w s ow
  obtain ⟨arr, E, fr, hm, hc⟩ := hm
  unfold execOp
  have hcell := ow.cell hm hc
  simp [hop, ev_eval s hx, Instr.loadAt, Instr.sureAddr, loadVar, run_isAgg hu, ha, hcell]

theorem g_loadA (T : Ty P) {b off t : Nat} {x : Operand} {td : TypeDesc} {cs : List Value} {sz by' : Nat} {z : Value} (hop : o.op = .load t x) (hx : ev env x = some (.pointer (some ⟨b, off, none⟩)))
    (hu : T.und t = some td) (ha : aggT td = true) (hi : T.inf t = some (sz, by', z)) (hl : cs.length = sz) (hm : ∃ arr E fr, (b, Obj.cells arr E fr) ∈ H ∧ ∀ j v, cs[j]? = some v → arr[off + j]? = some v) :
    Gives W P n env H o (.agg cs.toArray) := by
  intro t' w s ow
  obtain ⟨arr, E, fr, hm, hc⟩ := hm
  unfold execOp
  have hb := ow.lookup hm
  have := run_loadCells_list' (P := P) w b off arr E fr hb sz cs 0 #[] hl (by simpa using hc)
  simp [hop, ev_eval s hx, Instr.loadAt, Instr.sureAddr, loadVar, run_isAgg hu, ha, run_size hi, loadCells, this]

theorem g_index (T : Ty P) {m cap sz by' b off : Nat} {t E : TypeId} {x ix : Operand} {a : Option Addr} {kk : IntKind} {j : Int} {z : Value} (hop : o.op = .indexAddr t x ix)
    (hx : ev env x = some (.slice a m cap)) (hix : ev env ix = some (.int kk j)) (hu : T.und t = some (.slice E)) (hi : T.inf E = some (sz, by', z))
    (ha : a = some ⟨b, off, none⟩) (h0 : 0 ≤ j) (h1 : j < (m : Int)) : Gives W P n env H o (.pointer (some ⟨b, off + j.toNat * sz, none⟩)) := by
  intro t' w s ow
  subst ha
  unfold execOp
  simp only [hop, ev_eval s hx, ev_eval s hix, Instr.indexAt, asIntOf, Sem.run_bind, Sem.run_pure, Result.andThen_ok, run_und hu, Sem.run_ite, h0, h1, and_self, if_true, run_size hi]
  congr 3
  unfold Addr.add
  split
  · rename_i h; simp [h]
  · rfl

/-- a division by what is not 0 -/
theorem g_quo {t yt : TypeId} {x y : Operand} {k : IntKind} {a b : Int} (hop : o.op = .binOp .quo t x y yt) (hx : ev env x = some (.int k a)) (hy : ev env y = some (.int k b)) (hb : ¬ b = 0) :
    Gives W P n env H o (.int k (k.wrap (a.tdiv b))) := by
  intro t' w s ow
  unfold execOp
  simp only [hop, ev_eval s hx, ev_eval s hy]
  simp [eqGuard, binOp, Op.intDiv, hb]
theorem g_rem {t yt : TypeId} {x y : Operand} {k : IntKind} {a b : Int} (hop : o.op = .binOp .rem t x y yt) (hx : ev env x = some (.int k a)) (hy : ev env y = some (.int k b)) (hb : ¬ b = 0) :
    Gives W P n env H o (.int k (a.tmod b)) := by
  intro t' w s ow
  unfold execOp
  simp only [hop, ev_eval s hx, ev_eval s hy]
  simp [eqGuard, binOp, Op.intDiv, hb]

/-- a block of the group: its cells -/
theorem in_var {HL : List Hp} {j b : Nat} {arr : Array Value} {E : TypeId} {fr : Nat × Nat} {Hr : Hp} {off : Nat} (hj : idx j HL = some ((b, .cells arr E fr) :: Hr)) {v : Value} (hv : idx off arr.toList = some v) :
    ∃ arr E fr, (b, Obj.cells arr E fr) ∈ HL.flatten ∧ arr[off]? = some v :=
  ⟨arr, E, fr, mem_group (by rw [← idx_eq]; exact hj) (List.mem_cons_self ..), by rw [idx_eq] at hv; simpa using hv⟩
theorem in_varA {HL : List Hp} {j b : Nat} {arr : Array Value} {E : TypeId} {fr : Nat × Nat} {Hr : Hp} {off : Nat} {cs : List Value} (hj : idx j HL = some ((b, .cells arr E fr) :: Hr)) (hv : (arr.toList.drop off).take cs.length = cs) :
    ∃ arr E fr, (b, Obj.cells arr E fr) ∈ HL.flatten ∧ ∀ j v, cs[j]? = some v → arr[off + j]? = some v :=
  ⟨arr, E, fr, mem_group (by rw [← idx_eq]; exact hj) (List.mem_cons_self ..), fun j v h => by
    rw [← hv] at h
    have hl := (List.getElem?_eq_some_iff.1 h).1
    rw [List.getElem?_take_of_lt (by simp at hl; omega), List.getElem?_drop] at h
    simpa using h⟩
theorem in_mem {H : Hp} {b : Nat} {arr : Array Value} {E : TypeId} {fr : Nat × Nat} {off : Nat} (hm : (b, Obj.cells arr E fr) ∈ H) {v : Value} (hv : idx off arr.toList = some v) :
    ∃ arr E fr, (b, Obj.cells arr E fr) ∈ H ∧ arr[off]? = some v :=
  ⟨arr, E, fr, hm, by rw [idx_eq] at hv; simpa using hv⟩

variable {α : Type} [Inhabited α] {k : Fl α}
theorem in_elem {xs : List α} {a : Option Addr} (h : SliceR k xs a H) {b off : Nat} (ha : a = some ⟨b, off, none⟩) {j : Int} (h0 : 0 ≤ j) (h1 : j < (xs.length : Int)) {cs : List Value}
    (hc : k.enc (rd xs j) = cs) : ∃ arr E fr, (b, Obj.cells arr E fr) ∈ H ∧ ∀ i v, cs[i]? = some v → arr[off + j.toNat * k.size + i]? = some v := by
  obtain ⟨arr, E, fr, hm, h2⟩ := h.elem ha h0 h1
  exact ⟨arr, E, fr, hm, fun i v hi => h2 i v (by rw [hc]; exact hi)⟩
end rules
section groups
variable {α : Type} {k : Fl α}
theorem own_of {HL : List Hp} {j : Nat} {Hj : Hp} {xs : List α} {a : Option Addr} {cap : Nat} {E : TypeId} (h : SliceO k E xs a cap Hj) (hj : idx j HL = some Hj) : SliceR k xs a HL.flatten :=
  h.r.mono fun _ hc => mem_group (by rw [← idx_eq]; exact hj) hc
theorem ro_of {HL : List Hp} {j : Nat} {Hj : Hp} {xs : List α} {a : Option Addr} (h : SliceR k xs a Hj) (hj : idx j HL = some Hj) : SliceR k xs a HL.flatten :=
  h.mono fun _ hc => mem_group (by rw [← idx_eq]; exact hj) hc

theorem own_to {w : World} {HL HL' : List Hp} (js : List Nat) (h : pick js HL = HL') (o : Own W w HL.flatten) : Own W w HL'.flatten := h ▸ own_pick0 js o

theorem at_addnil {n : Nat} {F : Act → World → Prop} {env : Env} {HL : List Hp} (h : AtL W n F env (HL ++ [[]])) : AtL W n F env HL :=
  at_heap (fun w o => by simpa using o) h

/-- a callee's promise, in groups -/
def CallsL (P : Program) (f : FuncId) (args : List Value) (HL : List Hp) {β : Type} (V : β → Value) (G : β → List Hp) : Prop :=
  CallsTo P f args.toArray HL.flatten V (fun b => (G b).flatten)

theorem calls_atL {P : Program} {f : FuncId} {fn : Func} {c : Code} {args : List Value} {β : Type} {V : β → Value} {G : β → List Hp} {HL : List Hp} (env : Env)
    (hf : P.funcs[f]? = some fn) (hb : fn.body = some c) (hn : Nat.ble args.length fn.ntmps = true) (hs : sub env (args.zipIdx.map fun x => (x.2, x.1)))
    (h : ∀ W, AtL W fn.ntmps (c.wp P (bodyPost P fn fun e w' => ∃ b, e = .returned (V b) ∧ Own W w' (G b).flatten)) env HL) : CallsL P f args HL V G :=
  fun W w ow => calls_at env hf hb (by simpa using hn) (by simpa using hs) (h W) w ow

section call
variable {P : Program} {n : Nat} {Q : Exit → Act → World → Prop} {env : Env} {K : Act → World → Prop} {ops : Array Oper} {i : Nat} {o : Oper} {rest : List Nat} {HL : List Hp}
/-- a call: its operation, its slot -/
theorem at_c {d : Nat} {c : Operand} {args : Array Operand} {types : Array TypeId} {f : FuncId} {first captured : Array Value} {vs as : List Value} {β : Type} {V : β → Value} {B : β → List Hp} {As R : List Hp}
    (js : List Nat) (hs : slot n ops env i = some (o, d)) (hop : o.op = .call ⟨.value c, args, types⟩) (hc : ev env c = some (.func (.func f) first captured)) (ha : args.toList.mapM (ev env) = some vs) (hf : Has P f)
    (has : first.toList ++ (vs ++ captured.toList) = as) (hsel : sel js HL = (As, R)) (hcall : CallsL P f as (As ++ [R.flatten]) V (fun b => B b ++ [R.flatten]))
    (h : ∀ b, AtL W n K ((d, V b) :: env) (R ++ B b)) : AtL W n (wpOp P ops Q i K) env HL :=
  let ⟨ho, hw, hd, hn⟩ := slot_spec hs
  at_callf js ho hw hd hn hop hc ha hf has hsel (hcall.imp (fun _ w o => by simpa using o) (fun b => ⟨b, rfl, fun _ w o => by simpa using o⟩)) h
theorem at_cn {c : Operand} {args : Array Operand} {types : Array TypeId} {f : FuncId} {first captured : Array Value} {vs as : List Value} {β : Type} {V : β → Value} {B : β → List Hp} {As R : List Hp}
    (js : List Nat) (ho : ops[i]? = some o) (hw : want ops env o = some true) (hd : o.dst = none) (hop : o.op = .call ⟨.value c, args, types⟩) (hc : ev env c = some (.func (.func f) first captured)) (ha : args.toList.mapM (ev env) = some vs) (hf : Has P f)
    (has : first.toList ++ (vs ++ captured.toList) = as) (hsel : sel js HL = (As, R)) (hcall : CallsL P f as (As ++ [R.flatten]) V (fun b => B b ++ [R.flatten]))
    (h : ∀ b, AtL W n K env (R ++ B b)) : AtL W n (wpOp P ops Q i K) env HL :=
  at_callf_none js ho hw hd hop hc ha hf has hsel (hcall.imp (fun _ w o => by simpa using o) (fun b => ⟨b, rfl, fun _ w o => by simpa using o⟩)) h
theorem atq_c {d : Nat} {c : Operand} {args : Array Operand} {types : Array TypeId} {f : FuncId} {first captured : Array Value} {vs as : List Value} {v : Value} {l : List Oper} {F : Act → Prop}
    (hw : want ops env o = some true) (hd : o.dst = some d) (hn : Nat.blt d n = true) (hop : o.op = .call ⟨.value c, args, types⟩) (hc : ev env c = some (.func (.func f) first captured)) (ha : args.toList.mapM (ev env) = some vs) (hf : Has P f)
    (has : first.toList ++ (vs ++ captured.toList) = as) (hcall : CallsL P f as [HL.flatten] (fun _ : Unit => v) (fun _ => [HL.flatten]))
    (h : AtQ W P n ops HL.flatten l F ((d, v) :: env)) : AtQ W P n ops HL.flatten (o :: l) F env :=
  atq_callf hw hd (by simpa using hn) hop hc ha hf has (hcall.imp (fun _ w o => by simpa using o) (fun b => ⟨b, rfl, fun _ w o => by simpa using o⟩)) h
end call
end groups
end

section
variable {W : World}
variable {P : Program}

/-- an operation without a slot, wanted -/
def slot0 (ops : Array Oper) (env : Env) (i : Nat) : Option Oper :=
  match ops[i]? with
  | none => none
  | some o => match want ops env o, o.dst with
    | some true, none => some o
    | _, _ => none
theorem slot0_spec {ops : Array Oper} {env : Env} {i : Nat} {o : Oper} (h : slot0 ops env i = some o) : ops[i]? = some o ∧ want ops env o = some true ∧ o.dst = none := by
  unfold slot0 at h
  split at h
  · cases h
  · rename_i o' ho
    split at h
    · rename_i hw hd
      simp only [Option.some.injEq] at h
      subst h
      exact ⟨ho, hw, hd⟩
    · cases h

section rules
variable {T : Ty P} {n : Nat} {Q : Exit → Act → World → Prop} {env : Env} {HL : List Hp} {K : Act → World → Prop} {ops : Array Oper} {i d : Nat} {o : Oper} {rest : List Nat}

/-- a store into a variable -/
theorem at_st (T : Ty P) {b off t : Nat} {x y : Operand} {arr : Array Value} {E : TypeId} {v : Value} {sz by' : Nat} {z : Value} {Hr : Hp} (j : Nat) (cs : List Value)
    (hs : slot0 ops env i = some o) (hop : o.op = .store t x y) (hx : ev env x = some (.pointer (some ⟨b, off, none⟩)))
    (hy : ev env y = some v) (hi : T.inf t = some (sz, by', z)) (hj : idx j HL = some ((b, .cells arr E (0, 0)) :: Hr)) (hl : Nat.beq (cellsL v).length sz = true) (hf : (cellsL v).all Value.oneCell' = true)
    (hb : Nat.ble (off + sz) arr.size = true) (hcs : splice arr.toList off (cellsL v) = cs)
    (h : AtL W n K env (HL.set j ((b, .cells cs.toArray E (0, 0)) :: Hr))) : AtL W n (wpOp P ops Q i K) env HL :=
  let ⟨ho, hw, hd⟩ := slot0_spec hs
  at_store T ho hw hd hop hx hy hi (by rw [← idx_eq]; exact hj) (Nat.eq_of_beq_eq_true hl) (fun c hc => List.all_eq_true.1 hf c hc) (Nat.le_of_ble_eq_true hb) hcs h

theorem at_al (T : Ty P) {t : Nat} {sz by' : Nat} {z : Value} (cs : List Value) (hs : slot n ops env i = some (o, d)) (hop : o.op = .alloc t) (hi : T.inf t = some (sz, by', z)) (hz : cellsL z = cs)
    (h : ∀ b, AtL W n K ((d, .pointer (some ⟨b, 0, none⟩)) :: env) (HL ++ [[(b, Obj.cells cs.toArray t (0, 0))]])) : AtL W n (wpOp P ops Q i K) env HL :=
  let ⟨ho, hw, hd, hn⟩ := slot_spec hs
  at_alloc T ho hw hd hn hop hi hz h
theorem at_bx (T : Ty P) {t : Nat} {x : Operand} {v : Value} (cs : List Value) (hs : slot n ops env i = some (o, d)) (hop : o.op = .box t x) (hx : ev env x = some v) (hz : cellsL v = cs)
    (h : ∀ b, AtL W n K ((d, .pointer (some ⟨b, 0, none⟩)) :: env) (HL ++ [[(b, Obj.cells cs.toArray t (0, 0))]])) : AtL W n (wpOp P ops Q i K) env HL :=
  let ⟨ho, hw, hd, hn⟩ := slot_spec hs
  at_box T ho hw hd hn hop hx hz h

variable {α : Type} {k : Fl α}
theorem ap_b {m l c : Nat} (h : m + l ≤ 1099511627776) (hc : Nat.ble c 128 = true) : (m + l) * c ≤ 140737488355328 := by
  have := Nat.le_of_ble_eq_true hc
  have h2 : (m + l) * c ≤ 1099511627776 * 128 := Nat.mul_le_mul h this
  omega

/-- append, to an owned slice -/
theorem at_ap (T : Ty P) {g : Nat} {s x : Operand} {t t' E E' : TypeId} {xs ys : List α} {a a2 : Option Addr} {cap cap2 sz by' : Nat} {z : Value} {Hj : Hp}
    (hsl : slot n ops env i = some (o, d)) (hop : o.op = .call ⟨.builtin .append, #[s, x], #[t, t']⟩)
    (hs : ev env s = some (.slice a xs.length cap)) (hx : ev env x = some (.slice a2 ys.length cap2)) (hu : T.und t = some (.slice E)) (hu' : T.und t' = some (.slice E'))
    (hi : T.inf E = some (sz, by', z)) (hk : k.size = sz) (hz : (cellsL z).length = sz) (hj : idx g HL = some Hj) (so : SliceO k E xs a cap Hj) (sr : SliceR k ys a2 HL.flatten)
    (hb : xs.length + ys.length ≤ 1099511627776) (hby : Nat.ble by' 128 = true)
    (h : ∀ a' cap' H', SliceO k E (xs ++ ys) a' cap' H' → AtL W n K ((d, .slice a' (xs ++ ys).length cap') :: env) (HL.set g H')) : AtL W n (wpOp P ops Q i K) env HL :=
  let ⟨ho, hw, hd, hn⟩ := slot_spec hsl
  at_append T ho hw hd hn hop hs hx hu hu' hi hk hz (by rw [← idx_eq]; exact hj) so sr (ap_b hb hby) (by omega) h

theorem at_mk (T : Ty P) {t E : TypeId} {x y : Operand} {m : Int} {kk kk' : IntKind} {sz by' : Nat} {z : Value} (x0 : α)
    (hs : slot n ops env i = some (o, d)) (hop : o.op = .makeSlice t x y) (hx : ev env x = some (.int kk m)) (hy : ev env y = some (.int kk' m))
    (hu : T.und t = some (.slice E)) (hi : T.inf E = some (sz, by', z)) (hk : k.size = sz) (hz : cellsL z = k.enc x0) (h0 : 0 ≤ m ∧ m ≤ 1099511627776) (hby : Nat.ble by' 128 = true)
    (h : ∀ a cap H', SliceO k E (List.replicate m.toNat x0) a cap H' → AtL W n K ((d, .slice a (List.replicate m.toNat x0).length cap) :: env) (HL ++ [H'])) : AtL W n (wpOp P ops Q i K) env HL :=
  let ⟨ho, hw, hd, hn⟩ := slot_spec hs
  at_makeSlice T x0 ho hw hd hn hop hx hy hu hi hk hz h0.1 (by omega) (by
    have h1 := Nat.le_of_ble_eq_true hby
    have h2 : (by' : Int) * m ≤ 128 * 1099511627776 := by
      have h3 : (by' : Int) ≤ 128 := by omega
      exact Int.mul_le_mul h3 h0.2 h0.1 (by omega)
    omega) h

/-- a slice written out -/
theorem run_buildSlice {T : Ty P} {t E sz by' len : Nat} {z : Value} {vs : List (Nat × Value)} {cs : List Value} {w : World} (hu : T.und t = some (.slice E)) (hi : T.inf E = some (sz, by', z)) (hz : (cellsL z).length = sz)
    (hn : Nat.ble (len * sz) 16777216 = true) (hf : fillL (fun i => some (i * sz, sz)) ((List.range (len * sz)).map fun i => ((cellsL z)[i % sz]?).getD default) vs = some cs) :
    (Instr.buildSlice t len vs.toArray).run P w = .ok (.slice (some ⟨w.heap.size, 0, none⟩) len len) (w.alloc (.cells cs.toArray E)) := by
  have hn' := Nat.le_of_ble_eq_true hn
  have hzs : z.cells.size = sz := by rw [← hz, ← cellsL_eq]; simp
  have hfill : ∀ zr : Array Value, (len * sz = 0 → zr = #[]) → (len * sz ≠ 0 → zr = z.cells) →
      Instr.fill (fun i => some (i * sz, sz)) ((Array.range (len * sz)).map (zr[· % zr.size]!)) vs = some cs.toArray := by
    intro zr h0 h1
    apply fill_toList
    rw [← hf]
    congr 1
    simp only [Array.toList_map, Array.toList_range]
    apply List.map_congr_left
    intro j hj
    have hj' : j < len * sz := by simpa using hj
    have hzr := h1 (by omega)
    subst hzr
    have hp : 0 < sz := by
      rcases Nat.eq_zero_or_pos sz with h | h
      · rw [h] at hj'; omega
      · exact h
    rw [hzs, ← cellsL_eq]
    have hlt : j % sz < z.cells.size := by rw [hzs]; exact Nat.mod_lt _ hp
    rw [getElem!_pos z.cells (j % sz) hlt]
    simp [hlt]
  by_cases h0 : len * sz = 0
  · have := hfill #[] (fun _ => rfl) (fun h => absurd h0 h)
    simp [Instr.buildSlice, run_und hu, run_size hi, h0] at this ⊢
    simp [this, newRow]
  · have := hfill z.cells (fun h => absurd h h0) (fun _ => rfl)
    have hgt : ¬ (16777216 < len * sz) := by omega
    simp [Instr.buildSlice, run_und hu, run_size hi, h0, run_zero hi, hgt, this, newRow]

theorem at_bs (T : Ty P) {t E sz by' len : Nat} {z : Value} {parts : Array (Nat × Operand)} {vs : List (Nat × Value)} (ys : List α)
    (hsl : slot n ops env i = some (o, d)) (hop : o.op = .buildSlice t len parts) (hu : T.und t = some (.slice E)) (hi : T.inf E = some (sz, by', z)) (hz : (cellsL z).length = sz)
    (hn : Nat.ble (len * sz) 16777216 = true) (hp : (parts.toList.mapM fun p => (ev env p.2).map fun v => (p.1, v)) = some vs)
    (hf : fillL (fun i => some (i * sz, sz)) ((List.range (len * sz)).map fun i => ((cellsL z)[i % sz]?).getD default) vs = some (row k ys)) (hl : len = ys.length)
    (h : ∀ a H', SliceO k E ys a ys.length H' → AtL W n K ((d, .slice a ys.length ys.length) :: env) (HL ++ [H'])) : AtL W n (wpOp P ops Q i K) env HL := by
  subst hl
  obtain ⟨ho, hw, hd, hnn⟩ := slot_spec hsl
  refine at_val_w (β := { p : Option Addr × Hp // SliceO k E ys p.1 ys.length p.2 }) (V := fun p => .slice p.1.1 ys.length ys.length) (G := fun p => (HL ++ [p.1.2]).flatten)
    ho hw hd hnn (fun t' w s ow => ?_) (fun p => h _ _ p.2)
  refine ⟨⟨(some ⟨w.heap.size, 0, none⟩, [(w.heap.size, Obj.cells (row k ys).toArray E)]), .inr ⟨w.heap.size, [], [], rfl, by simp, by simp, by simp⟩⟩, w.alloc (.cells (row k ys).toArray E), ?_, own_group_new _ ow⟩
  have hr := run_buildSlice (P := P) (w := w) hu hi hz hn hf
  have hparts : (parts.map fun (x : Nat × Operand) => (x.1, Act.eval ⟨t', []⟩ x.2)) = vs.toArray := by
    rw [← evps_eval s hp]; apply Array.ext'; simp
  unfold execOp
  simp only [hop, hparts, Sem.run_bind, hr, Result.andThen_ok, Sem.run_pure]

/-- a part of a slice -/
def subA (a : Option Addr) (cap lo sz : Nat) : Option Addr := if cap = lo then a else a.map (·.add (lo * sz))
def sub' (xs : List α) (lo hi : Int) : List α := (xs.drop lo.toNat).take (hi.toNat - lo.toNat)
theorem sub_length {xs : List α} {lo hi : Int} (h : 0 ≤ lo ∧ lo ≤ hi ∧ hi ≤ (xs.length : Int)) : (sub' xs lo hi).length = hi.toNat - lo.toNat := by
  simp [sub']; omega
theorem sub_r {xs : List α} {a : Option Addr} {H : Hp} {cap : Nat} (hr : SliceR k xs a H) {lo hi : Int} (h : 0 ≤ lo ∧ lo ≤ hi ∧ hi ≤ (xs.length : Int)) (hc : xs.length ≤ cap) : SliceR k (sub' xs lo hi) (subA a cap lo.toNat k.size) H := by
  rcases hr with rfl | ⟨b, off, arr, E, fr, rfl, hm, hh⟩
  · left; simp [sub']
  · by_cases he : lo.toNat = hi.toNat
    · left; unfold sub'; rw [he]; simp
    · have hne : cap ≠ lo.toNat := by omega
      right
      refine ⟨b, off + lo.toNat * k.size, arr, E, fr, ?_, hm, fun j v hj => ?_⟩
      · simp only [subA, hne, if_false, Option.map_some, Addr.add]
        split
        · rename_i h0; simp [h0]
        · rfl
      · have hx : xs = xs.take lo.toNat ++ (sub' xs lo hi ++ xs.drop hi.toNat) := by
          unfold sub'
          have : xs.drop hi.toNat = (xs.drop lo.toNat).drop (hi.toNat - lo.toNat) := by rw [List.drop_drop]; congr 1; omega
          rw [this, List.take_append_drop, List.take_append_drop]
        have h1 : (row k xs)[lo.toNat * k.size + j]? = some v := by
          rw [hx, row_append, row_append]
          have hl : (row k (xs.take lo.toNat)).length = lo.toNat * k.size := by rw [row_length]; congr 1; simp; omega
          rw [List.getElem?_append_right (by omega), hl, Nat.add_sub_cancel_left, List.getElem?_append_left (List.getElem?_eq_some_iff.1 hj).1]
          exact hj
        rw [Nat.add_assoc]
        exact hh _ _ h1

/-- what a slice expression's bounds are -/
def loV (env : Env) : Option Operand → Option Int
  | none => some 0
  | some x => match ev env x with
    | some (.int _ j) => some j
    | _ => none
def hiV (env : Env) (m : Nat) : Option Operand → Option Int
  | none => some m
  | some x => match ev env x with
    | some (.int _ j) => some j
    | _ => none

theorem run_sliceBound {y : Nat} {code : BoundsCode} {kk : IntKind} {j : Int} (h0 : 0 ≤ j) (h1 : j ≤ (y : Int)) (w : World) : (Instr.sliceBound (.int kk j) y code).run P w = .ok j.toNat w := by
  simp [Instr.sliceBound, asIntOf, h0, h1]

theorem g_sub (T : Ty P) {H : Hp} {t E sz by' cap : Nat} {z : Value} {x : Operand} {lo hi : Option Operand} {a : Option Addr} {xs : List α} {l h : Int} (hop : o.op = .slice t x lo hi none) (hx : ev env x = some (.slice a xs.length cap))
    (hu : T.und t = some (.slice E)) (hi' : T.inf E = some (sz, by', z)) (hlo : loV env lo = some l) (hhi : hiV env xs.length hi = some h) (hb : 0 ≤ l ∧ l ≤ h ∧ h ≤ (xs.length : Int)) (hc : xs.length ≤ cap) :
    Gives W P n env H o (.slice (subA a cap l.toNat sz) (sub' xs l h).length (cap - l.toNat)) := by
  intro t' w s ow
  have e1 : (Instr.sliceBounds true xs.length cap (lo.map (Act.eval ⟨t', []⟩)) (hi.map (Act.eval ⟨t', []⟩)) none).run P w = .ok (l.toNat, h.toNat, cap) w := by
    unfold Instr.sliceBounds
    cases hi with
    | none =>
      simp only [hiV, Option.some.injEq] at hhi
      cases lo with
      | none =>
        simp only [loV, Option.some.injEq] at hlo
        subst hlo; subst hhi
        simp
      | some y =>
        simp only [loV] at hlo
        split at hlo
        · rename_i kk j hy
          simp at hlo; subst hlo; subst hhi
          simp [ev_eval s hy, run_sliceBound hb.1 hb.2.1]
        · cases hlo
    | some y' =>
      simp only [hiV] at hhi
      split at hhi
      · rename_i kk' j' hy'
        simp at hhi; subst hhi
        have hb3 : j' ≤ (cap : Int) := by omega
        have hb2 : 0 ≤ j' := by omega
        cases lo with
        | none =>
          simp only [loV, Option.some.injEq] at hlo
          subst hlo
          simp [ev_eval s hy', run_sliceBound hb2 hb3]
        | some y =>
          simp only [loV] at hlo
          split at hlo
          · rename_i kk j hy
            simp at hlo; subst hlo
            have : j ≤ (j'.toNat : Int) := by omega
            simp [ev_eval s hy', run_sliceBound hb2 hb3, ev_eval s hy, run_sliceBound hb.1 this]
          · cases hlo
      · cases hhi
  have e2 : (Instr.slice t (.slice a xs.length cap) (lo.map (Act.eval ⟨t', []⟩)) (hi.map (Act.eval ⟨t', []⟩)) none).run P w = .ok (.slice (subA a cap l.toNat sz) (sub' xs l h).length (cap - l.toNat)) w := by
    unfold Instr.slice
    simp only [Sem.run_bind, run_und hu, Result.andThen_ok]
    simp only [Sem.run_bind, e1, Result.andThen_ok, run_size hi', Sem.run_pure, sub_length hb]
    rfl
  unfold execOp
  simp only [hop, ev_eval s hx, Option.map_none]
  unfold Instr.sliceAt
  simp only [Sem.run_bind, run_und hu, Result.andThen_ok]
  rw [e2]; rfl

theorem Res.aggv {T : Ty P} {j a b off t : Nat} {td : TypeDesc} {arr : Array Value} {E : TypeId} {fr : Nat × Nat} {sz by' : Nat} {z : Value} {rs : List ResultVar} {vs : List Value} {Hr : Hp} (cs : List Value) (h : lk a env = some (.pointer (some ⟨b, off, none⟩)))
    (hu : T.und t = some td) (ha : aggT td = true) (hi : T.inf t = some (sz, by', z)) (hj : idx j HL = some ((b, .cells arr E fr) :: Hr)) (hl : Nat.beq cs.length sz = true) (hv : (arr.toList.drop off).take cs.length = cs)
    (r : Res T env HL.flatten rs vs) : Res T env HL.flatten (.cell a t :: rs) (.agg cs.toArray :: vs) :=
  .agg h hu ha hi (mem_group (by rw [← idx_eq]; exact hj) (List.mem_cons_self ..)) (Nat.eq_of_beq_eq_true hl) (fun j v h => by
    rw [← hv] at h
    have hl := (List.getElem?_eq_some_iff.1 h).1
    rw [List.getElem?_take_of_lt (by simp at hl; omega), List.getElem?_drop] at h
    simpa using h) r
theorem Res.cellv {T : Ty P} {j a b off t : Nat} {td : TypeDesc} {arr : Array Value} {E : TypeId} {fr : Nat × Nat} {v : Value} {rs : List ResultVar} {vs : List Value} {Hr : Hp} (h : lk a env = some (.pointer (some ⟨b, off, none⟩)))
    (hu : T.und t = some td) (ha : aggT td = false) (hj : idx j HL = some ((b, .cells arr E fr) :: Hr)) (hv : idx off arr.toList = some v)
    (r : Res T env HL.flatten rs vs) : Res T env HL.flatten (.cell a t :: rs) (v :: vs) :=
  .cell h hu ha (mem_group (by rw [← idx_eq]; exact hj) (List.mem_cons_self ..)) (by rw [idx_eq] at hv; simpa using hv) r
theorem in_elem1 [Inhabited α] {H : Hp} {xs : List α} {a : Option Addr} (h : SliceR k xs a H) {b off : Nat} (ha : a = some ⟨b, off, none⟩) {j : Int} (hj : 0 ≤ j ∧ j < (xs.length : Int)) (f : Nat) {v : Value}
    (hc : idx f (k.enc (rd xs j)) = some v) : ∃ arr E fr, (b, Obj.cells arr E fr) ∈ H ∧ arr[off + j.toNat * k.size + f]? = some v := h.at ha hj.1 hj.2 f hc
theorem in_elemA [Inhabited α] {H : Hp} {xs : List α} {a : Option Addr} (h : SliceR k xs a H) {b off : Nat} (ha : a = some ⟨b, off, none⟩) {j : Int} (hj : 0 ≤ j ∧ j < (xs.length : Int)) {cs : List Value}
    (hc : k.enc (rd xs j) = cs) : ∃ arr E fr, (b, Obj.cells arr E fr) ∈ H ∧ ∀ i v, cs[i]? = some v → arr[off + j.toNat * k.size + i]? = some v := in_elem h ha hj.1 hj.2 hc

theorem at_se [Inhabited α] (T : Ty P) {b off t E : Nat} {x y : Operand} {v : Value} {sz by' cap : Nat} {z : Value} {Hj : Hp} {xs : List α} {a : Option Addr} {j : Int} (g f : Nat) (x' : α)
    (hsl : slot0 ops env i = some o) (hop : o.op = .store t x y) (hx : ev env x = some (.pointer (some ⟨b, off + j.toNat * k.size + f, none⟩)))
    (hy : ev env y = some v) (hi : T.inf t = some (sz, by', z)) (hj : idx g HL = some Hj) (hs : SliceO k E xs a cap Hj) (ha : a = some ⟨b, off, none⟩) (hb : 0 ≤ j ∧ j < (xs.length : Int))
    (hl : Nat.beq (cellsL v).length sz = true) (hf : Nat.ble (f + sz) k.size = true) (he : k.enc x' = splice (k.enc (rd xs j)) f (cellsL v))
    (h : ∀ H', SliceO k E (xs.set j.toNat x') a cap H' → AtL W n K env (HL.set g H')) : AtL W n (wpOp P ops Q i K) env HL :=
  let ⟨ho, hw, hd⟩ := slot0_spec hsl
  at_store_elem T x' ho hw hd hop hx hy hi (by rw [← idx_eq]; exact hj) hs ha hb.1 hb.2 (Nat.eq_of_beq_eq_true hl) (Nat.le_of_ble_eq_true hf) he h
end rules
end

section
open Go.RowKit

/-- all blocks of a world -/
def allOf (W : World) : Hp := W.heap.toList.zipIdx.map fun x => (x.2, x.1)

theorem all_mem {W : World} {b : Nat} {o : Obj} (h : W.heap[b]? = some o) : (b, o) ∈ allOf W := by
  unfold allOf
  refine List.mem_map.2 ⟨(o, b), ?_, rfl⟩
  rw [List.mem_iff_getElem?]
  refine ⟨b, ?_⟩
  rw [List.getElem?_zipIdx]
  simp [h]

theorem own_all (W : World) : Own W W (allOf W) := by
  refine ⟨⟨rfl, rfl, rfl⟩, ?_, ?_⟩
  · unfold allOf
    rw [List.map_map]
    have : ((fun x : Nat × Obj => x.1) ∘ fun (x : Obj × Nat) => (x.2, x.1)) = Prod.snd := rfl
    rw [this, List.zipIdx_map_snd]
    exact List.nodup_range'
  · intro c hc
    unfold allOf at hc
    obtain ⟨x, hx, rfl⟩ := List.mem_map.1 hc
    rw [List.mem_iff_getElem?] at hx
    obtain ⟨i, hi⟩ := hx
    rw [List.getElem?_zipIdx] at hi
    simp only [Option.map_eq_some_iff] at hi
    obtain ⟨o, ho, rfl⟩ := hi
    simpa using ho

theorem own_below {W w' : World} (h : Own W w' (allOf W)) : Below W.heap.size W w' := by
  refine ⟨h.1.1, h.1.2.1, h.1.2.2, ?_, ?_⟩
  · rcases Nat.eq_zero_or_pos W.heap.size with h0 | h0
    · omega
    · have hl : W.heap.size - 1 < W.heap.size := by omega
      have := h.lt (all_mem (Array.getElem?_eq_getElem hl))
      omega
  · intro k hk
    rw [Array.getElem?_eq_getElem hk]
    exact h.lookup (all_mem (Array.getElem?_eq_getElem hk))

theorem row_calls {P : Program} {f : FuncId} {as : List Value} {v : Value} (W : World) (h : CallsL P f as [allOf W] (fun _ : Unit => v) (fun _ => [allOf W])) :
    Calls P f as.toArray W (fun e w' => e = .returned v ∧ Below W.heap.size W w') :=
  (h W W (by simpa using own_all W)).mono fun e w' ⟨_, he, o⟩ => ⟨he, own_below (by simpa using o)⟩

/-- a type whose values read as things of a kind -/
def Opens {α : Type} (P : Program) (t : TypeId) (k : Fl α) (good : α → Prop) : Prop :=
  P.cellsOf t = k.size ∧ ∀ {H : Type} (enc : TypeId × Value → H) (w : World) (base : Nat) (spare : Nat → Bool) (held : Bool) (n : Nat) (cs : List Value) (y : DataW H × List MemPlace),
    DataW.trod enc P w base spare held n t cs = some y → ∃ x, cs = k.enc x ∧ good x

def inI64 (n : Int) : Prop := -9223372036854775808 ≤ n ∧ n ≤ 9223372036854775807
def inU8 (n : Int) : Prop := 0 ≤ n ∧ n ≤ 255

theorem wf_i64 {n : Int} (h : (Lit.int .i64 n).wf = true) : inI64 n := by
  simpa [Lit.wf, IntKind.min, IntKind.max, IntKind.signed, IntKind.bits, inI64] using h
theorem wf_u8 {n : Int} (h : (Lit.int .u8 n).wf = true) : inU8 n := by
  simpa [Lit.wf, IntKind.min, IntKind.max, IntKind.signed, IntKind.bits, inU8] using h

theorem opens_i64 {P : Program} {t : TypeId} (ht : P.underlying t = some (.int .i64)) (hc : P.cellsOf t = 1) : Opens P t (Fl.int .i64) inI64 :=
  ⟨hc, fun _ _ _ _ _ _ _ _ h => let ⟨n, h1, _, h3⟩ := DataW.trod_int ht h; ⟨n, h1, wf_i64 h3⟩⟩
theorem opens_u8 {P : Program} {t : TypeId} (ht : P.underlying t = some (.int .u8)) (hc : P.cellsOf t = 1) : Opens P t (Fl.int .u8) inU8 :=
  ⟨hc, fun _ _ _ _ _ _ _ _ h => let ⟨n, h1, _, h3⟩ := DataW.trod_int ht h; ⟨n, h1, wf_u8 h3⟩⟩

theorem cell_heap {W : World} {a : Addr} {v : Value} (h : W.cell? a = some v) : ∃ c T fr, W.heap[a.block]? = some (.cells c T fr) ∧ a.spot = none ∧ c[a.off]? = some v := by
  unfold World.cell? at h
  split at h
  · rename_i c T fr hb
    split at h
    · cases h
    · rename_i hs
      exact ⟨c, T, fr, hb, by simpa using hs, h⟩
  · cases h

theorem open_flat {α : Type} {P : Program} {W : World} {H : Type} {enc : TypeId × Value → H} {spare : Nat → Bool} {held : Bool} {fuel : Nat} {t e : TypeId} {k : Fl α} {good : α → Prop} {cs : List Value} {y : DataW H × List MemPlace}
    (ht : P.underlying t = some (.slice e)) (ho : Opens P e k good) (h : DataW.trod enc P W 0 spare held fuel t cs = some y) :
    ∃ a cap xs, cs = [.slice a (List.length xs) cap] ∧ SliceR k xs a (allOf W) ∧ List.length xs ≤ cap ∧ (∀ x ∈ xs, good x) ∧ List.length xs ≤ 9223372036854775807 := by
  rcases DataW.trod_slice ht h with ⟨rfl, rfl⟩ | ⟨a, len, cap, elems, rest, n, _, rfl, rfl, hb, hl, hm, hlen, hel, _, _⟩
  · exact ⟨none, 0, [], rfl, .inl rfl, by simp, by simp, by simp⟩
  · rw [ho.1] at hel
    have each : ∀ i, i < len → ∃ x, good x ∧ ∀ j v, (k.enc x)[j]? = some v → W.cell? ((a.add (i * k.size)).add j) = some v := by
      intro i hi
      have hy := hel i hi
      rw [List.getElem?_eq_getElem (by omega)] at hy
      obtain ⟨cs', h1, h2⟩ := Option.bind_eq_some_iff.1 hy
      obtain ⟨x, hx, hg⟩ := ho.2 enc W 0 spare held n cs' _ h2
      obtain ⟨_, hl', hc⟩ := World.cells?_some h1
      refine ⟨x, hg, fun j v hj => ?_⟩
      have hjl := (List.getElem?_eq_some_iff.1 hj).1
      rw [k.len] at hjl
      rw [hc j hjl, hx]; exact hj
    have hex : ∀ m, m ≤ len → ∃ xs : List α, xs.length = m ∧ (∀ x ∈ xs, good x) ∧ ∀ i x, xs[i]? = some x → ∀ j v, (k.enc x)[j]? = some v → W.cell? ((a.add (i * k.size)).add j) = some v := by
      intro m
      induction m with
      | zero => exact fun _ => ⟨[], rfl, by simp, by simp⟩
      | succ m ih =>
        intro hle
        obtain ⟨xs, h1, h2, h3⟩ := ih (by omega)
        obtain ⟨x, hx1, hx2⟩ := each m (by omega)
        refine ⟨xs ++ [x], by simp [h1], ?_, ?_⟩
        · intro z hz
          rcases List.mem_append.1 hz with hz | hz
          · exact h2 z hz
          · simp at hz; subst hz; exact hx1
        · intro i z hz
          by_cases hi : i < xs.length
          · rw [List.getElem?_append_left hi] at hz; exact h3 i z hz
          · rw [List.getElem?_append_right (by omega)] at hz
            have : i = m := by
              have := (List.getElem?_eq_some_iff.1 hz).1
              simp at this; omega
            subst this
            simp [h1] at hz
            subst hz; exact hx2
    obtain ⟨xs, h1, h2, h3⟩ := hex len (Nat.le_refl _)
    subst h1
    refine ⟨some a, cap, xs, rfl, ?_, hl, h2, by unfold maxLen at hm; omega⟩
    cases xs with
    | nil => exact .inl rfl
    | cons x0 r =>
      right
      have hp := k.pos
      obtain ⟨v0, hv0⟩ : ∃ v, (k.enc x0)[0]? = some v := ⟨(k.enc x0)[0]'(by rw [k.len]; exact hp), by rw [List.getElem?_eq_getElem]⟩
      have h0 := h3 0 x0 rfl 0 v0 hv0
      have e0 : (a.add (0 * k.size)).add 0 = a := by simp [Addr.add]
      rw [e0] at h0
      obtain ⟨c, T, fr, hb1, hs, _⟩ := cell_heap h0
      refine ⟨a.block, a.off, c, T, fr, ?_, all_mem hb1, ?_⟩
      · cases a; simp at hs; simp [hs]
      · intro j v hj
        have hjl := (List.getElem?_eq_some_iff.1 hj).1
        rw [row_length] at hjl
        have hq : j / k.size < (x0 :: r).length := by rw [Nat.div_lt_iff_lt_mul hp]; exact hjl
        have hr : j % k.size < k.size := Nat.mod_lt _ hp
        have hg := row_get k (x0 :: r) (j / k.size) (j % k.size) hq hr
        rw [Nat.div_add_mod' j k.size] at hg
        rw [hg] at hj
        have h5 := h3 (j / k.size) _ (List.getElem?_eq_getElem hq) (j % k.size) v hj
        have e1 : (a.add (j / k.size * k.size)).add (j % k.size) = ⟨a.block, a.off + j, none⟩ := by
          have hdm := Nat.div_add_mod' j k.size
          unfold Addr.add
          cases a
          simp at hs
          subst hs
          split <;> split <;> simp <;> omega
        rw [e1] at h5
        obtain ⟨c', T', fr', hb2, _, hc2⟩ := cell_heap h5
        simp at hb2 hc2
        rw [hb1] at hb2
        simp at hb2
        obtain ⟨rfl, _, _⟩ := hb2
        exact hc2

/-! ### a pointer that may be nil, a slice that may be -/
def optm {α β : Type} (o : Option α) (a : Option β) (f : α → Option β) : Option β := match o with
  | none => a
  | some x => f x
theorem optm_n {α β : Type} {o : Option α} {a : Option β} {f : α → Option β} {r : β} (h : o = none) (H : optm o a f = some r) : a = some r := by subst h; exact H
theorem optm_s {α β : Type} {o : Option α} {x : α} {a : Option β} {f : α → Option β} {r : β} (h : o = some x) (H : optm o a f = some r) : f x = some r := by subst h; exact H
theorem nil_of {α : Type} {k : Fl α} {xs : List α} {a : Option Addr} {H : Hp} (h : SliceR k xs a H) (hn : Option.isNone a = true) : xs = [] := by
  rcases h with h | ⟨b, off, arr, E, fr, h1, _⟩
  · exact h
  · subst h1; cases hn

section callR
variable {P : Program} {n : Nat} {Q : Exit → Act → World → Prop} {env : Env} {K : Act → World → Prop} {ops : Array Oper} {i : Nat} {o : Oper} {W : World} {HL : List Hp}
/-- a call that tells what it owns: `Rp` of its value and its blocks; the blocks `Kp` come back as they were -/
theorem at_cR {d : Nat} {c : Operand} {args : Array Operand} {types : Array TypeId} {f : FuncId} {first captured : Array Value} {vs as : List Value} {As R : List Hp} (Rp : Value → List Hp → Prop) (Kp : List Hp)
    (js : List Nat) (hs : slot n ops env i = some (o, d)) (hop : o.op = .call ⟨.value c, args, types⟩) (hc : ev env c = some (.func (.func f) first captured)) (ha : args.toList.mapM (ev env) = some vs) (hf : Has P f)
    (has : first.toList ++ (vs ++ captured.toList) = as) (hsel : sel js HL = (As, R))
    (hcall : CallsL P f as (As ++ [R.flatten]) (fun p : { p : Value × List Hp // Rp p.1 p.2 } => p.1.1) (fun p => (p.1.2 ++ Kp) ++ [R.flatten]))
    (h : ∀ u G, Rp u G → AtL W n K ((d, u) :: env) (R ++ (G ++ Kp))) : AtL W n (wpOp P ops Q i K) env HL :=
  at_c (B := fun p : { p : Value × List Hp // Rp p.1 p.2 } => p.1.2 ++ Kp) js hs hop hc ha hf has hsel hcall (fun p => h p.1.1 p.1.2 p.2)
theorem at_cnR {c : Operand} {args : Array Operand} {types : Array TypeId} {f : FuncId} {first captured : Array Value} {vs as : List Value} {As R : List Hp} (Rp : Value → List Hp → Prop) (Kp : List Hp)
    (js : List Nat) (ho : ops[i]? = some o) (hw : want ops env o = some true) (hd : o.dst = none) (hop : o.op = .call ⟨.value c, args, types⟩) (hc : ev env c = some (.func (.func f) first captured)) (ha : args.toList.mapM (ev env) = some vs) (hf : Has P f)
    (has : first.toList ++ (vs ++ captured.toList) = as) (hsel : sel js HL = (As, R))
    (hcall : CallsL P f as (As ++ [R.flatten]) (fun p : { p : Value × List Hp // Rp p.1 p.2 } => p.1.1) (fun p => (p.1.2 ++ Kp) ++ [R.flatten]))
    (h : ∀ u G, Rp u G → AtL W n K env (R ++ (G ++ Kp))) : AtL W n (wpOp P ops Q i K) env HL :=
  at_cn (B := fun p : { p : Value × List Hp // Rp p.1 p.2 } => p.1.2 ++ Kp) js ho hw hd hop hc ha hf has hsel hcall (fun p => h p.1.1 p.1.2 p.2)
/-- a call that reads blocks of ours, in a region that draws its order and writes nothing -/
theorem atq_cr {d : Nat} {c : Operand} {args : Array Operand} {types : Array TypeId} {f : FuncId} {first captured : Array Value} {vs as : List Value} {v : Value} {l : List Oper} {F : Act → Prop} {As R : List Hp}
    (js : List Nat) (hw : want ops env o = some true) (hd : o.dst = some d) (hn : Nat.blt d n = true) (hop : o.op = .call ⟨.value c, args, types⟩) (hc : ev env c = some (.func (.func f) first captured)) (ha : args.toList.mapM (ev env) = some vs) (hf : Has P f)
    (has : first.toList ++ (vs ++ captured.toList) = as) (hsel : sel js HL = (As, R)) (hcall : CallsL P f as (As ++ [R.flatten]) (fun _ : Unit => v) (fun _ => As ++ [R.flatten]))
    (h : AtQ W P n ops HL.flatten l F ((d, v) :: env)) : AtQ W P n ops HL.flatten (o :: l) F env := by
  have hp : HL.flatten.Perm (As ++ [R.flatten]).flatten := by have := sel_perm js HL; rw [hsel] at this; simpa using this
  refine atq_c hw hd hn hop hc ha hf has (CallsTo.imp hcall (fun W w o => (show Own W w HL.flatten by simpa using o).perm hp) (fun b => ⟨b, rfl, fun W w o => by simpa using Own.perm o hp.symm⟩)) h
end callR
end

section
variable {W : World}
section late
variable {P : Program} {ops : Array Oper} {Q : Exit → Act → World → Prop} {S : World → Prop} {late : List Nat} {A : List (List Nat)}

/-- none of the late ones has come up -/
def lateFree (late : List Nat) (listed : Array Bool) : Bool := late.all fun l => !(listed.getD l false)
/-- whatever order is picked from here on; S holds until one of the late ones has come up -/
def wpAnyL (P : Program) (ops : Array Oper) (Q : Exit → Act → World → Prop) (S : World → Prop) (late : List Nat) : Nat → Array Bool → Act → World → Prop
  | 0, listed, a, w => Region.ready .any ops listed = [] ∧ Q .normal a w
  | fuel + 1, listed, a, w =>
    (Region.ready .any ops listed = [] → Q .normal a w) ∧
    ∀ i ∈ Region.ready .any ops listed, wpOp P ops Q i (fun a' w' => (lateFree late (listed.setIfInBounds i true) = true → S w') ∧ wpAnyL P ops Q S late fuel (listed.setIfInBounds i true) a' w') a w

theorem wpAny_of_late : ∀ (fuel : Nat) (listed : Array Bool) (a : Act) (w : World), wpAnyL P ops Q S late fuel listed a w → wpAny P .any ops Q fuel listed a w
  | 0, _, _, _, h => h
  | fuel + 1, _, _, _, h => ⟨h.1, fun i hi => wpOp_mono (fun a' w' h' => wpAny_of_late fuel _ a' w' h'.2) (h.2 i hi)⟩

/-- what stands ahead of each operation, as far as it is told -/
def aheadOk (ops : Array Oper) (A : List (List Nat)) : Bool :=
  (List.range ops.size).all fun j => (A.getD j []).all fun k => (ops.getD j default).after.toList.any fun e => Region.binds .any e && (e.on == k || (A.getD e.on []).contains k)
def shut (A : List (List Nat)) (listed : Array Bool) : Bool :=
  (List.range listed.size).all fun j => !(listed.getD j false) || (A.getD j []).all fun k => listed.getD k false

theorem shut_spec {listed : Array Bool} (h : shut A listed = true) {j k : Nat} (hj : listed.getD j false = true) (hk : k ∈ A.getD j []) : listed.getD k false = true := by
  unfold shut at h
  rw [List.all_eq_true] at h
  have hlt : j < listed.size := by
    rcases Nat.lt_or_ge j listed.size with h' | h'
    · exact h'
    · simp [Array.getD, Nat.not_lt.2 h'] at hj
  have := h j (List.mem_range.2 hlt)
  rw [hj] at this
  simp only [Bool.not_true, Bool.false_or, List.all_eq_true] at this
  exact this k hk
theorem shut_of {listed : Array Bool} (h : ∀ j k, listed.getD j false = true → k ∈ A.getD j [] → listed.getD k false = true) : shut A listed = true := by
  unfold shut
  rw [List.all_eq_true]
  intro j _
  cases hj : listed.getD j false with
  | false => rfl
  | true =>
    simp only [Bool.not_true, Bool.false_or, List.all_eq_true]
    exact fun k hk => h j k hj hk

theorem ahead_listed (ha : aheadOk ops A = true) {listed : Array Bool} (hs : shut A listed = true) {j : Nat} (hj : j ∈ Region.ready .any ops listed) {k : Nat} (hk : k ∈ A.getD j []) : listed.getD k false = true := by
  obtain ⟨_, oj, hoj, hall⟩ := mem_ready.1 hj
  unfold aheadOk at ha
  rw [List.all_eq_true] at ha
  have hlt : j < ops.size := (Array.getElem?_eq_some_iff.1 hoj).1
  have h1 := ha j (List.mem_range.2 hlt)
  rw [List.all_eq_true] at h1
  have h2 := h1 k hk
  have hg : ops.getD j default = oj := by simp [Array.getD, hlt]; exact (Array.getElem?_eq_some_iff.1 hoj).2
  rw [hg, List.any_eq_true] at h2
  obtain ⟨e, he, h3⟩ := h2
  simp only [Bool.and_eq_true, Bool.or_eq_true, beq_iff_eq] at h3
  have h4 := hall e (Array.mem_toList_iff.1 he) h3.1
  rcases h3.2 with h5 | h5
  · rw [← h5]; exact h4
  · exact shut_spec hs h4 (by simpa using h5)

theorem getD_set_no {listed : Array Bool} {j k : Nat} (d : Bool) (h : j ≠ k) : (listed.setIfInBounds j true).getD k d = listed.getD k d := by
  cases d with
  | true => exact getD_set_ne true h
  | false =>
    rcases Nat.lt_or_ge k listed.size with h' | h'
    · simp [Array.getD, h', Array.getElem_setIfInBounds, h]
    · simp [Array.getD, Nat.not_lt.2 h']
theorem shut_set {listed : Array Bool} (ha : aheadOk ops A = true) (hs : shut A listed = true) {j : Nat} (hj : j ∈ Region.ready .any ops listed) : shut A (listed.setIfInBounds j true) = true := by
  refine shut_of fun x k hx hk => ?_
  have up : ∀ k, listed.getD k false = true → (listed.setIfInBounds j true).getD k false = true := fun k hk => by
    by_cases hjk : j = k
    · subst hjk
      rcases Nat.lt_or_ge j listed.size with h' | h'
      · simp [Array.getD, h']
      · simp [Array.getD, Nat.not_lt.2 h'] at hk
    · rw [getD_set_no false hjk]; exact hk
  by_cases hjx : j = x
  · subst hjx; exact up k (ahead_listed ha hs hj hk)
  · rw [getD_set_no false hjx] at hx
    exact up k (shut_spec hs hx hk)
theorem unlisted {listed : Array Bool} {i : Nat} (hr : i ∈ Region.ready .any ops listed) : listed.getD i false = false := by
  have h0 := (mem_ready.1 hr).1
  rcases Nat.lt_or_ge i listed.size with h' | h'
  · simp [Array.getD, h'] at h0 ⊢; exact h0
  · simp [Array.getD, Nat.not_lt.2 h'] at h0
theorem lateFree_of {listed : Array Bool} {i : Nat} (hl : (late.all fun j => (A.getD j []).contains i) = true) (hs : shut A listed = true) (hi : listed.getD i false = false) : lateFree late listed = true := by
  unfold lateFree
  rw [List.all_eq_true] at hl ⊢
  intro j hj
  cases hb : listed.getD j false with
  | false => rfl
  | true =>
    have h1 := hl j hj
    have := shut_spec hs hb (k := i) (by simpa using h1)
    rw [hi] at this; cases this
theorem lateFree_set {listed : Array Bool} {i : Nat} (hi : late.contains i = false) : lateFree late (listed.setIfInBounds i true) = lateFree late listed := by
  unfold lateFree
  rw [Bool.eq_iff_iff, List.all_eq_true, List.all_eq_true]
  have h : ∀ l ∈ late, i ≠ l := fun l hl e => by subst e; simp [hl] at hi
  constructor
  · intro q l hl; have := q l hl; rwa [getD_set_no false (h l hl)] at this
  · intro q l hl; rw [getD_set_no false (h l hl)]; exact q l hl

/-- an operation that yields its value wherever the others that may come ahead of it leave the world may be taken first -/
theorem wpAnyL_first {T : World → Prop} {i : Nat} {oi : Oper} {v : Value} (hi : ops[i]? = some oi) (hsel : ∀ (j : Nat) (o : Oper) cs b, ops[j]? = some o → o.op ≠ .select cs b)
    (hQ : ∀ c a w, Q (.panic c) (a.put oi.dst v) w → Q (.panic c) a w) (hST : ∀ w, S w → T w) (hl : (∀ w, T w) ∨ (late.all fun j => (A.getD j []).contains i) = true) (hn : late.contains i = false) (ha : aheadOk ops A = true) :
    ∀ (fuel : Nat) (listed : Array Bool) (a : Act) (w : World),
      (∀ j oj, ops[j]? = some oj → j ≠ i → listed.getD j true = false → (∀ e ∈ oj.after, Region.binds .any e = true → e.on ≠ i) → oi.apart ops oj = true) → shut A listed = true →
      i ∈ Region.ready .any ops listed → YieldsIf P ops T oi v a → (lateFree late listed = true → S w) →
      wpAnyL P ops Q S late fuel (listed.setIfInBounds i true) (a.put oi.dst v) w → wpAnyL P ops Q S late (fuel + 1) listed a w := by
  intro fuel
  have tell : ∀ (listed : Array Bool) (w : World), shut A listed = true → listed.getD i false = false → (lateFree late listed = true → S w) → T w := by
    intro listed w hs hr hw
    rcases hl with hl | hl
    · exact hl w
    · exact hST w (hw (lateFree_of hl hs hr))
  induction fuel with
  | zero =>
    intro listed a w _ hs hr hy hS H
    refine ⟨fun h => (by rw [h] at hr; cases hr), fun j hj => ?_⟩
    by_cases hji : j = i
    · subst hji; exact hy.wpOp hi (tell listed w hs (unlisted hr) hS) ⟨fun hc => hS (by rwa [lateFree_set hn] at hc), H⟩
    · have := ready_mono hj hji
      rw [H.1] at this
      cases this
  | succ fuel ih =>
    intro listed a w hfree hs hr hy hS H
    refine ⟨fun h => (by rw [h] at hr; cases hr), fun j hj => ?_⟩
    by_cases hji : j = i
    · subst hji; exact hy.wpOp hi (tell listed w hs (unlisted hr) hS) ⟨fun hc => hS (by rwa [lateFree_set hn] at hc), H⟩
    · have h1 := H.2 j (ready_mono hj hji)
      obtain ⟨hjun, oj, hoj, hall⟩ := mem_ready.1 hj
      have hnot : ∀ e ∈ oj.after, Region.binds .any e = true → e.on ≠ i := fun e he hb heq => by
        have h1 := hall e he hb
        rw [heq, unlisted hr] at h1; cases h1
      have h2 := wpOp_putIf hoj (hfree j oj hoj hji hjun hnot) (fun cs b => hsel i oi cs b hi) (fun cs b => hsel j oj cs b hoj) hQ hy h1
      have hfree' : ∀ k ok, ops[k]? = some ok → k ≠ i → (listed.setIfInBounds j true).getD k true = false →
          (∀ e ∈ ok.after, Region.binds .any e = true → e.on ≠ i) → oi.apart ops ok = true := fun k ok hk hki hun hno => by
        refine hfree k ok hk hki ?_ hno
        by_cases hjk : j = k
        · subst hjk; exact hjun
        · rw [getD_set_ne true hjk] at hun; exact hun
      refine wpOp_mono (fun a' w' h3 => ?_) h2
      have e1 : lateFree late ((listed.setIfInBounds i true).setIfInBounds j true) = lateFree late (listed.setIfInBounds j true) := by
        rw [Array.setIfInBounds_comm _ _ (Ne.symm hji)]; exact lateFree_set hn
      have hS' : lateFree late (listed.setIfInBounds j true) = true → S w' := fun h => h3.2.1 (by rw [e1]; exact h)
      refine ⟨hS', ih (listed.setIfInBounds j true) a' w' hfree' (shut_set ha hs hj) (ready_mono hr (Ne.symm hji)) h3.1 hS' ?_⟩
      rw [Array.setIfInBounds_comm _ _ hji]
      exact h3.2.2
end late

/-! ### a region that draws its order and writes: in slots and blocks -/
section regm
variable {P : Program} {n : Nat} {Q : Exit → Act → World → Prop} {env : Env} {ops : Array Oper} {i : Nat} {o : Oper} {HL : List Hp} {late : List Nat} {A : List (List Nat)} {H0 : List Hp} {fuel : Nat} {listed : Array Bool}
def SO (W : World) (H0 : List Hp) (w : World) : Prop := Own W w H0.flatten
def goB (ops : Array Oper) (A : List (List Nat)) : Bool := aheadOk ops A && Region.noSelect ops
def takeB (ops : Array Oper) (A : List (List Nat)) (late : List Nat) (listed : Array Bool) (i : Nat) : Bool :=
  Region.free .any ops listed i && ((Region.ready .any ops listed).contains i && (shut A listed && !(late.contains i)))
/-- what is known of the blocks that nobody turns ahead of the late ones -/
def StillM (W : World) (late : List Nat) (listed : Array Bool) (HL H0 : List Hp) : Prop := lateFree late listed = false ∨ ∀ w, Own W w HL.flatten → SO W H0 w
theorem still_l (h : lateFree late listed = false) : StillM W late listed HL H0 := .inl h
theorem still_o (js : List Nat) (h : pick js HL = H0) : StillM W late listed HL H0 := .inr fun _ o => own_to js h o
theorem StillM.of (h : StillM W late listed HL H0) {w : World} (o : Own W w HL.flatten) (hl : lateFree late listed = true) : SO W H0 w := by
  rcases h with h | h
  · rw [h] at hl; cases hl
  · exact h w o

theorem at_region_m (A : List (List Nat)) (late : List Nat) (H0 : List Hp) {id : Nat} (hm : P.follows .mixedOrders = true) (hg : goB ops A = true) (hpf : PF Q)
    (h : goB ops A = true → PF Q → AtL W n (wpAnyL P ops Q (SO W H0) late ops.size (Array.replicate ops.size false)) env HL) :
    AtL W n ((Code.region id ops true).wp P Q) env HL :=
  fun t _ s ow => wp_region_any hm (wpAny_of_late _ _ _ _ (h hg hpf t _ s ow.drew))

theorem atm_take {d : Nat} {v : Value} {Tp : World → Prop} (hg : goB ops A = true) (hpf : PF Q) (hb : takeB ops A late listed i = true) (hS : StillM W late listed HL H0) (hST : ∀ w, SO W H0 w → Tp w)
    (hl : (∀ w, Tp w) ∨ (late.all fun j => (A.getD j []).contains i) = true) (ho : ops[i]? = some o) (hd : o.dst = some d) (hn : d < n)
    (hy : ∀ t, Slots n t env → YieldsIf P ops Tp o v ⟨t, []⟩)
    (h : AtL W n (wpAnyL P ops Q (SO W H0) late fuel (listed.setIfInBounds i true)) ((d, v) :: env) HL) : AtL W n (wpAnyL P ops Q (SO W H0) late (fuel + 1) listed) env HL := by
  intro t w s ow
  simp only [goB, Bool.and_eq_true] at hg
  simp only [takeB, Bool.and_eq_true, Bool.not_eq_true'] at hb
  obtain ⟨h1, h2, h3, h4⟩ := hb
  refine wpAnyL_first (v := v) ho (Region.noSelect_spec hg.2) (fun c a w' => hpf c a o.dst v w') hST hl h4 hg.1 fuel listed _ w (Region.free_spec ho h1) h3 (by simpa using h2) (hy t s) (fun q => hS.of ow q) ?_
  have := h _ w (s.put (v := v) hn) ow
  simpa [Act.put, hd] using this

theorem atm_s (T : Ty P) (i : Nat) {e : Nat × Value} (hg : goB ops A = true) (hpf : PF Q) (hb : takeB ops A late listed i = true) (hS : StillM W late listed HL H0) (hs : stepP T n ops env i = some e)
    (h : AtL W n (wpAnyL P ops Q (SO W H0) late fuel (listed.setIfInBounds i true)) (e :: env) HL) : AtL W n (wpAnyL P ops Q (SO W H0) late (fuel + 1) listed) env HL := by
  unfold stepP at hs
  split at hs
  · cases hs
  · rename_i o ho
    split at hs
    · rename_i d hw hd
      cases hb' : Nat.blt d n with
      | false => simp [hb'] at hs
      | true =>
        simp only [hb', cond_true] at hs
        split at hs
        · rename_i v hv
          simp at hs; subst hs
          exact atm_take (Tp := fun _ => True) hg hpf hb hS (fun _ _ => trivial) (.inl fun _ => trivial) ho hd (by simpa using hb') (fun t s => .inl ⟨want_wanted s hw, fun w _ => pureVal_run s hv w⟩) h
        · cases hs
    · rename_i d hw hd
      cases hb' : Nat.blt d n with
      | false => simp [hb'] at hs
      | true =>
        simp [hb'] at hs; subst hs
        exact atm_take (Tp := fun _ => True) hg hpf hb hS (fun _ _ => trivial) (.inl fun _ => trivial) ho hd (by simpa using hb') (fun t s => .inr ⟨want_wanted s hw, rfl⟩) h
    · cases hs

theorem atm_v (i : Nat) {d : Nat} {v : Value} (hg : goB ops A = true) (hpf : PF Q) (hb : takeB ops A late listed i = true) (hS : StillM W late listed HL H0) (hl : (late.all fun j => (A.getD j []).contains i) = true)
    (hs : slot n ops env i = some (o, d)) (hv : Gives W P n env H0.flatten o v)
    (h : AtL W n (wpAnyL P ops Q (SO W H0) late fuel (listed.setIfInBounds i true)) ((d, v) :: env) HL) : AtL W n (wpAnyL P ops Q (SO W H0) late (fuel + 1) listed) env HL :=
  let ⟨ho, hw, hd, hn⟩ := slot_spec hs
  atm_take (Tp := SO W H0) hg hpf hb hS (fun _ h => h) (.inr hl) ho hd hn (fun t s => .inl ⟨want_wanted s hw, fun w q => hv t w s q⟩) h

/-- behind an operation that may write -/
def NextM (W : World) (P : Program) (ops : Array Oper) (Q : Exit → Act → World → Prop) (H0 : List Hp) (late : List Nat) (fuel : Nat) (listed : Array Bool) (a : Act) (w : World) : Prop :=
  (lateFree late listed = true → SO W H0 w) ∧ wpAnyL P ops Q (SO W H0) late fuel listed a w
theorem atm_next (hS : StillM W late listed HL H0) (h : AtL W n (wpAnyL P ops Q (SO W H0) late fuel listed) env HL) : AtL W n (NextM W P ops Q H0 late fuel listed) env HL :=
  fun t w s ow => ⟨fun q => hS.of ow q, h t w s ow⟩
theorem atm_one (i : Nat) (hr : Region.ready .any ops listed = [i]) (h : AtL W n (wpOp P ops Q i (NextM W P ops Q H0 late fuel (listed.setIfInBounds i true))) env HL) :
    AtL W n (wpAnyL P ops Q (SO W H0) late (fuel + 1) listed) env HL := by
  intro t w s ow
  refine ⟨fun q => (by rw [hr] at q; cases q), fun j hj => ?_⟩
  rw [hr] at hj
  simp at hj; subst hj; exact h t w s ow
theorem atm_two (i j : Nat) (hr : Region.ready .any ops listed = [i, j]) (h1 : AtL W n (wpOp P ops Q i (NextM W P ops Q H0 late fuel (listed.setIfInBounds i true))) env HL)
    (h2 : AtL W n (wpOp P ops Q j (NextM W P ops Q H0 late fuel (listed.setIfInBounds j true))) env HL) :
    AtL W n (wpAnyL P ops Q (SO W H0) late (fuel + 1) listed) env HL := by
  intro t w s ow
  refine ⟨fun q => (by rw [hr] at q; cases q), fun k hk => ?_⟩
  rw [hr] at hk
  simp at hk; rcases hk with rfl | rfl
  · exact h1 t w s ow
  · exact h2 t w s ow
theorem atm_three (i j m : Nat) (hr : Region.ready .any ops listed = [i, j, m]) (h1 : AtL W n (wpOp P ops Q i (NextM W P ops Q H0 late fuel (listed.setIfInBounds i true))) env HL)
    (h2 : AtL W n (wpOp P ops Q j (NextM W P ops Q H0 late fuel (listed.setIfInBounds j true))) env HL)
    (h3 : AtL W n (wpOp P ops Q m (NextM W P ops Q H0 late fuel (listed.setIfInBounds m true))) env HL) :
    AtL W n (wpAnyL P ops Q (SO W H0) late (fuel + 1) listed) env HL := by
  intro t w s ow
  refine ⟨fun q => (by rw [hr] at q; cases q), fun k hk => ?_⟩
  rw [hr] at hk
  simp at hk; rcases hk with rfl | rfl | rfl
  · exact h1 t w s ow
  · exact h2 t w s ow
  · exact h3 t w s ow
theorem atm_end (hr : Region.ready .any ops listed = []) (h : AtL W n (Q .normal) env HL) : AtL W n (wpAnyL P ops Q (SO W H0) late fuel listed) env HL := by
  intro t w s ow
  cases fuel with
  | zero => exact ⟨hr, h t w s ow⟩
  | succ fuel => exact ⟨fun _ => h t w s ow, by rw [hr]; simp⟩
end regm
end

section
variable {W : World}
variable {P : Program}

/-! ### copy -/
/-- so many of ys laid over xs from a place on -/
def cpy {α : Type} (xs : List α) (lo n : Nat) (ys : List α) : List α := xs.take lo ++ (ys.take n ++ xs.drop (lo + n))
theorem cpy_length {α : Type} {xs ys : List α} {lo n : Nat} (h1 : lo + n ≤ xs.length) (h2 : n ≤ ys.length) : (cpy xs lo n ys).length = xs.length := by
  simp [cpy]; omega

section
variable {α : Type} {k : Fl α}
theorem SliceR.take {xs : List α} {a : Option Addr} {H : Hp} (h : SliceR k xs a H) (n : Nat) : SliceR k (xs.take n) a H := by
  rcases h with rfl | ⟨b, off, arr, E, fr, h1, h2, h3⟩
  · left; simp
  · refine .inr ⟨b, off, arr, E, fr, h1, h2, fun j v hj => h3 j v ?_⟩
    have : row k xs = row k (xs.take n) ++ row k (xs.drop n) := by rw [← row_append, List.take_append_drop]
    rw [this, List.getElem?_append_left (List.getElem?_eq_some_iff.1 hj).1]; exact hj

theorem copy_run (T : Ty P) {t t' ty E : TypeId} {xs ys : List α} {a a2 da : Option Addr} {g cap cap2 dc dl lo sz by' : Nat} {z : Value} {Hj : Hp} {w : World} {HL : List Hp}
    (hu : T.und t = some (.slice E)) (hi : T.inf E = some (sz, by', z)) (hk : k.size = sz)
    (hj : HL[g]? = some Hj) (so : SliceO k E xs a cap Hj) (sr : SliceR k ys a2 HL.flatten) (hda : (da = a ∧ lo = 0) ∨ da = subA a cap lo sz) (hl : lo + dl ≤ xs.length) (ow : Own W w HL.flatten) :
    ∃ H' w', (Builtin.copy_ #[t, t'] ty #[.slice da dl dc, .slice a2 ys.length cap2]).run P w = .ok (.int .i64 (min ys.length dl : Nat)) w' ∧
      SliceO k E (cpy xs lo (min ys.length dl) ys) a cap H' ∧ Own W w' (HL.set g H').flatten := by
  have hfx : (Builtin.firstCells sz (min ys.length dl) (.slice a2 ys.length cap2)).run P w = .ok (row k (ys.take (min ys.length dl))).toArray w := by
    have h1 : (ys.take (min ys.length dl)).length = min ys.length dl := by simp
    have := run_first (P := P) (sr.take (min ys.length dl)) ow ys.length cap2
    rw [h1, hk] at this; exact this
  have hrun : ∀ (r : Option Addr) (w' : World), r = da → (match r with | some ad => (storeCells ad (row k (ys.take (min ys.length dl)))).run P w = .ok () w' | none => w' = w) →
      (Builtin.copy_ #[t, t'] ty #[.slice da dl dc, .slice a2 ys.length cap2]).run P w = .ok (.int .i64 (min ys.length dl : Nat)) w' := by
    intro r w' hr h
    subst hr
    have hm : Nat.min ys.length dl = min ys.length dl := rfl
    cases r with
    | none => subst h; simp [Builtin.copy_, run_und hu, run_size hi, Builtin.lenOf, hm, hfx, goInt]
    | some ad => simp [Builtin.copy_, run_und hu, run_size hi, Builtin.lenOf, hm, hfx, h, goInt]
  rcases so with ⟨rfl, rfl, rfl, rfl⟩ | ⟨b, pre, post, rfl, rfl, h3, h4⟩
  · have hz : lo = 0 ∧ dl = 0 := by simp at hl; omega
    obtain ⟨rfl, rfl⟩ := hz
    have hdn : da = none := by
      rcases hda with ⟨h, _⟩ | h
      · exact h
      · simpa [subA] using h
    refine ⟨[], w, hrun none w hdn.symm rfl, .inl ⟨rfl, by simp [cpy], rfl, rfl⟩, own_set hj (by simpa using own_get hj ow)⟩
  · have hxl := row_length k xs
    have hnl : (ys.take (min ys.length dl)).length = min ys.length dl := by simp
    have hyl := row_length k (ys.take (min ys.length dl))
    rw [hnl] at hyl
    by_cases h0 : min ys.length dl = 0
    · have hc : cpy xs lo (min ys.length dl) ys = xs := by rw [h0]; simp [cpy]
      have hne : ∃ ad, da = some ad := by
        rcases hda with ⟨h, _⟩ | h
        · exact ⟨_, h⟩
        · unfold subA at h; split at h
          · exact ⟨_, h⟩
          · exact ⟨_, h⟩
      obtain ⟨ad, had⟩ := hne
      refine ⟨_, w, hrun (some ad) w had.symm ?_, by rw [hc]; exact .inr ⟨b, pre, post, rfl, rfl, h3, h4⟩, own_set hj (own_get hj ow)⟩
      have : row k (ys.take (min ys.length dl)) = [] := by rw [h0]; simp [row_nil]
      rw [this]; simp [storeCells]
    · have hdd : da = some ⟨b, pre.length + lo * sz, none⟩ := by
        rcases hda with ⟨h, h'⟩ | h
        · rw [h, h']; simp
        · have hne : cap ≠ lo := by omega
          rw [h]; simp only [subA, hne, if_false, Option.map_some, Addr.add]
          split
          · rename_i h0; simp [h0]
          · rfl
      have hlo : lo * sz + min ys.length dl * sz ≤ xs.length * sz := by rw [← Nat.add_mul]; exact Nat.mul_le_mul_right _ (by omega)
      obtain ⟨w', hr, ow'⟩ := run_storeCells' T b E (row k (ys.take (min ys.length dl))) w (pre ++ (row k xs ++ post)).toArray (pre.length + lo * sz) 0 (by simpa using own_get hj ow)
        (by simp [hxl, hyl, hk]; omega) (row_plain k _)
      refine ⟨[(b, Obj.cells (pre ++ (row k (cpy xs lo (min ys.length dl) ys) ++ post)).toArray E (0, 0))], w', hrun (some _) w' hdd.symm hr, ?_, ?_⟩
      · have hcl := cpy_length (xs := xs) (ys := ys) (lo := lo) (n := min ys.length dl) (by omega) (by omega)
        exact .inr ⟨b, pre, post, rfl, rfl, by rw [hcl]; exact h3, by rw [hcl]; exact h4⟩
      · refine own_set hj ?_
        rw [Nat.add_zero, stored_toList _ _ _ (by simp [hxl, hyl, hk]; omega)] at ow'
        have e : splice (pre ++ (row k xs ++ post)) (pre.length + lo * sz) (row k (ys.take (min ys.length dl))) = pre ++ (row k (cpy xs lo (min ys.length dl) ys) ++ post) := by
          have hx1 : row k xs = row k (xs.take lo) ++ row k (xs.drop lo) := by rw [← row_append, List.take_append_drop]
          have hx2 : row k (xs.drop lo) = row k ((xs.drop lo).take (min ys.length dl)) ++ row k (xs.drop (lo + min ys.length dl)) := by
            rw [← row_append, ← List.drop_drop, List.take_append_drop]
          have hl1 : (row k (xs.take lo)).length = lo * sz := by rw [row_length, hk]; congr 1; simp; omega
          have hl2 : (row k ((xs.drop lo).take (min ys.length dl))).length = min ys.length dl * sz := by rw [row_length, hk]; congr 1; simp; omega
          unfold splice
          rw [show pre.length + lo * sz = (pre ++ row k (xs.take lo)).length by simp [hl1]]
          rw [show pre ++ (row k xs ++ post) = (pre ++ row k (xs.take lo)) ++ (row k (xs.drop lo) ++ post) by rw [hx1]; simp]
          rw [List.take_left', List.drop_length_add_append, hx2]
          · rw [show (row k (ys.take (min ys.length dl))).length = (row k ((xs.drop lo).take (min ys.length dl))).length by rw [hyl, hl2, hk]]
            rw [show row k ((xs.drop lo).take (min ys.length dl)) ++ row k (xs.drop (lo + min ys.length dl)) ++ post = row k ((xs.drop lo).take (min ys.length dl)) ++ (row k (xs.drop (lo + min ys.length dl)) ++ post) by simp]
            rw [List.drop_left']
            · simp [cpy, row_append]
            · rfl
          · rfl
        simpa [e] using ow'

theorem fit0 (n : Nat) : 0 + n ≤ n := by omega
theorem sub_fit {xs : List α} {lo hi : Int} (h : 0 ≤ lo ∧ lo ≤ hi ∧ hi ≤ (xs.length : Int)) : lo.toNat + (sub' xs lo hi).length ≤ xs.length := by
  rw [sub_length h]; omega
theorem cpy_len {xs ys : List α} {lo dl : Nat} (h : lo + dl ≤ xs.length) : (cpy xs lo (min ys.length dl) ys).length = xs.length := cpy_length (by omega) (by omega)

section rules
variable {T : Ty P} {n : Nat} {Q : Exit → Act → World → Prop} {env : Env} {HL : List Hp} {ops : Array Oper} {i : Nat} {K : Act → World → Prop} {o : Oper}
theorem at_cp (T : Ty P) {d g lo : Nat} {s x : Operand} {t t' E : TypeId} {xs ys : List α} {a a2 da : Option Addr} {cap cap2 dc dl sz by' : Nat} {z : Value} {Hj : Hp}
    (hsl : slot n ops env i = some (o, d)) (hop : o.op = .call ⟨.builtin .copy, #[s, x], #[t, t']⟩)
    (hs : ev env s = some (.slice da dl dc)) (hx : ev env x = some (.slice a2 ys.length cap2)) (hu : T.und t = some (.slice E)) (hi : T.inf E = some (sz, by', z)) (hk : k.size = sz)
    (hj : idx g HL = some Hj) (so : SliceO k E xs a cap Hj) (sr : SliceR k ys a2 HL.flatten) (hda : (da = a ∧ lo = 0) ∨ da = subA a cap lo sz) (hl : lo + dl ≤ xs.length)
    (h : ∀ H', SliceO k E (cpy xs lo (min ys.length dl) ys) a cap H' → AtL W n K ((d, .int .i64 (min ys.length dl : Nat)) :: env) (HL.set g H')) : AtL W n (wpOp P ops Q i K) env HL := by
  obtain ⟨ho, hw, hd, hn⟩ := slot_spec hsl
  refine at_val_w (β := { H' : Hp // SliceO k E (cpy xs lo (min ys.length dl) ys) a cap H' }) (V := fun _ => .int .i64 (min ys.length dl : Nat)) (G := fun p => (HL.set g p.1).flatten)
    ho hw hd hn (fun tt w sl ow => ?_) (fun p => h _ p.2)
  obtain ⟨H', w', hr, hso, ow'⟩ := copy_run (P := P) T (ty := o.type) (t' := t') (dc := dc) (cap2 := cap2) hu hi hk (by rw [← idx_eq]; exact hj) so sr hda hl ow
  refine ⟨⟨H', hso⟩, w', ?_, ow'⟩
  obtain ⟨cs, hb⟩ := run_builtin (P := P) (t := tt) w hop
  rw [hb]
  simp only [List.map_toArray, List.map_cons, List.map_nil, ev_eval sl hs, ev_eval sl hx, builtin, Sem.run_bind]
  refine Eq.trans (congrArg (fun r => Result.andThen r _) hr) ?_
  simp only [Result.andThen_ok, Sem.run_pure]
end rules
end
end

section
variable {W : World}
variable {P : Program}

/-! ### strings made of bytes -/
def strB (xs : List Int) : ByteArray := xs.foldl (fun s n => s.push (UInt8.ofNat n.toNat)) ByteArray.empty
def strEq (a b : List Int) : Bool := (strB a).toList == (strB b).toList
theorem strEq_self (a : List Int) : strEq a a = true := by simp [strEq]

theorem row_u8 (xs : List Int) : row (Fl.int .u8) xs = xs.map fun n => Value.int .u8 n := by
  induction xs with
  | nil => rfl
  | cons x xs ih => rw [row_cons, ih]; rfl

theorem run_bytes {xs : List Int} {a : Option Addr} {H : Hp} {w : World} (hr : SliceR (Fl.int .u8) xs a H) (ow : Own W w H) (cap : Nat) :
    (Conv.bytesToString (.slice a xs.length cap)).run P w = .ok (.string (strB xs)) w := by
  have hf := run_first (P := P) hr ow xs.length cap
  cases a with
  | none =>
    have : xs = [] := by
      rcases hr with h | ⟨b, off, arr, E, fr, h1, _⟩
      · exact h
      · cases h1
    subst this
    simp [Conv.bytesToString, strB]
  | some ad =>
    have hl : (loadCells ad xs.length).run P w = .ok (row (Fl.int .u8) xs).toArray w := by
      have e : (Fl.int .u8).size = 1 := rfl
      simpa [Builtin.firstCells, e] using hf
    unfold Conv.bytesToString
    simp only [Sem.run_bind, hl, Result.andThen_ok, row_u8]
    rw [← Array.forIn_toList]
    have key : ∀ (l : List Int) (s0 : ByteArray), (forIn (m := Sem) (l.map fun n => Value.int .u8 n) s0 fun c s =>
        match c with
        | Value.int .u8 n => pure (ForInStep.yield (s.push (UInt8.ofNat n.toNat)))
        | _ => do
          stuck "bytesToString: byte expected"
          pure (ForInStep.yield s)).run P w = .ok (l.foldl (fun s n => s.push (UInt8.ofNat n.toNat)) s0) w := by
      intro l
      induction l with
      | nil => intro s0; simp
      | cons x l ih =>
        intro s0
        simp only [List.map_cons, List.forIn_cons, Sem.run_bind, Sem.run_pure, Result.andThen_ok, List.foldl_cons]
        exact ih _
    have h := key xs ByteArray.empty
    refine Eq.trans (congrArg (fun r => Result.andThen r _) h) ?_
    simp only [Result.andThen_ok, Sem.run_pure]; rfl

section
variable {n : Nat} {env : Env} {o : Oper}
theorem g_tostr (T : Ty P) {H : Hp} {t t' E cap : Nat} {x : Operand} {a : Option Addr} {xs : List Int} (hop : o.op = .convert t t' x) (hx : ev env x = some (.slice a xs.length cap))
    (hu : T.und t = some (.slice E)) (hu' : T.und t' = some .string) (hE : T.und E = some (.int .u8)) (sr : SliceR (Fl.int .u8) xs a H) : Gives W P n env H o (.string (strB xs)) := by
  intro t1 w s ow
  unfold execOp
  simp only [hop, ev_eval s hx]
  have := run_bytes (P := P) sr ow cap
  simp [convert, run_und hu, run_und hu', run_und hE, this]
theorem g_streq {H : Hp} {t yt : TypeId} {x y : Operand} {a b : List Int} (hop : o.op = .binOp .eql t x y yt) (hx : ev env x = some (.string (strB a))) (hy : ev env y = some (.string (strB b))) : Gives W P n env H o (.bool (strEq a b)) := by
  intro t1 w s ow
  unfold execOp
  simp only [hop, ev_eval s hx, ev_eval s hy]
  simp [eqGuard, binOp, Op.stringOp, strEq]
end
end

section
variable {W : World}
variable {P : Program}

/-! ### maps -/
section model
variable {κ α : Type} [DecidableEq κ]
def mget : List (κ × α) → κ → Option α
  | [], _ => none
  | e :: r, x => if e.1 = x then some e.2 else mget r x
def mhas (m : List (κ × α)) (x : κ) : Bool := (mget m x).isSome
def mval [Inhabited α] (m : List (κ × α)) (x : κ) : α := (mget m x).getD default
def mset : List (κ × α) → κ → α → List (κ × α)
  | [], x, v => [(x, v)]
  | e :: r, x, v => if e.1 = x then (x, v) :: r else e :: mset r x v
def mdel : List (κ × α) → κ → List (κ × α)
  | [], _ => []
  | e :: r, x => if e.1 = x then r else e :: mdel r x
def mpos : List (κ × α) → κ → Option Nat
  | [], _ => none
  | e :: r, x => if e.1 = x then some 0 else (mpos r x).map (· + 1)

theorem mpos_none {m : List (κ × α)} {x : κ} (h : mpos m x = none) : mget m x = none := by
  induction m with
  | nil => rfl
  | cons e r ih =>
    simp only [mpos, mget] at h ⊢
    split at h
    · cases h
    · rename_i hk
      rw [if_neg hk]
      exact ih (by simpa using h)
theorem mpos_some {m : List (κ × α)} {x : κ} {i : Nat} (h : mpos m x = some i) : ∃ v, mget m x = some v ∧ m[i]? = some (x, v) := by
  induction m generalizing i with
  | nil => cases h
  | cons e r ih =>
    simp only [mpos, mget] at h ⊢
    split at h
    · rename_i hk
      simp at h; subst h
      exact ⟨e.2, by rw [if_pos hk], by simp [← hk]⟩
    · rename_i hk
      cases hr : mpos r x with
      | none => simp [hr] at h
      | some j =>
        simp [hr] at h; subst h
        obtain ⟨v, h1, h2⟩ := ih hr
        exact ⟨v, by rw [if_neg hk]; exact h1, by simpa using h2⟩
end model

/-- a kind of keys -/
structure Ky (P : Program) (t : TypeId) (κ : Type) [DecidableEq κ] where
  enc : κ → Value
  check : ∀ (e : Bool) (w : World) (x : κ), (Instr.checkKey e 10000 t (enc x)).run P w = .ok () w
  find : ∀ (w : World) (x : κ) (es : List MapEntry) (ks : List κ), es.map (·.key) = ks.map enc →
    (Instr.findKey t (enc x) es).run P w = .ok ((mpos (ks.map fun k => (k, ())) x).bind fun i => (es[i]?).map fun e => (i, e.val)) w
  stays : ∀ (w : World) (x : κ), (Instr.keyThatStays (enc x) (enc x)).run P w = .ok (enc x) w

theorem findNow_int {q : IntKind} {x : Int} : ∀ (es : List MapEntry) (ks : List Int) (j : Nat), es.map (·.key) = ks.map (fun k => Value.int q k) →
    Instr.findNow (.int q) (.int q x) es j = some ((mpos (ks.map fun k => (k, ())) x).bind fun i => (es[i]?).map fun e => (i + j, e.val))
  | [], [], _, _ => rfl
  | [], _ :: _, _, h => by simp at h
  | _ :: _, [], _, h => by simp at h
  | e :: es, k :: ks, j, h => by
    simp only [List.map_cons, List.cons.injEq] at h
    obtain ⟨h1, h2⟩ := h
    simp only [Instr.findNow, h1, Instr.sameNow, if_true, List.map_cons, mpos]
    by_cases hk : k = x
    · subst hk; simp
    · have : (x == k) = false := by simp [Ne.symm hk]
      simp only [this, hk, if_false]
      rw [findNow_int es ks (j + 1) h2]
      cases hp : mpos (ks.map fun k => (k, ())) x with
      | none => simp
      | some i =>
        simp only [Option.map_some, Option.bind_some, List.getElem?_cons_succ]
        rw [show i + 1 + j = i + (j + 1) by omega]

def Ky.int {P : Program} {t : TypeId} (q : IntKind) (ht : P.underlying t = some (.int q)) : Ky P t Int where
  enc := fun x => .int q x
  check := fun e w x => MapKept.run_checkKey ht (by simp [MapKept.IsKey]) e 9999
  find := fun w x es ks h => by
    have := findNow_int (x := x) es ks 0 h
    simpa using MapKept.run_findKey (w := w) ht this
  stays := fun w x => MapKept.run_keyThatStays (d := .int q) (by simp [MapKept.IsKey])

section objs
variable {κ α : Type} [DecidableEq κ] {t : TypeId}
def ents (K : Ky P t κ) (kv : α → Value) : List (κ × α) → List Nat → List MapEntry
  | e :: r, b :: bs => ⟨K.enc e.1, kv e.2, b⟩ :: ents K kv r bs
  | _, _ => []

theorem ents_keys (K : Ky P t κ) (kv : α → Value) : ∀ (m : List (κ × α)) (bs : List Nat), bs.length = m.length → (ents K kv m bs).map (·.key) = (m.map (·.1)).map K.enc
  | [], [], _ => rfl
  | [], _ :: _, h => by simp at h
  | _ :: _, [], h => by simp at h
  | e :: r, b :: bs, h => by simp [ents, ents_keys K kv r bs (by simpa using h)]
theorem ents_length (K : Ky P t κ) (kv : α → Value) (m : List (κ × α)) (bs : List Nat) (h : bs.length = m.length) : (ents K kv m bs).length = m.length := by
  have := congrArg List.length (ents_keys K kv m bs h); simpa using this
theorem ents_get (K : Ky P t κ) (kv : α → Value) : ∀ (m : List (κ × α)) (bs : List Nat) (i : Nat) (e : κ × α), bs.length = m.length → m[i]? = some e → ∃ b, (ents K kv m bs)[i]? = some ⟨K.enc e.1, kv e.2, b⟩ ∧ bs[i]? = some b
  | [], _, _, _, _, h => by simp at h
  | _ :: _, [], _, _, h, _ => by simp at h
  | e :: r, b :: bs, 0, e', _, h => by simp at h; subst h; exact ⟨b, rfl, rfl⟩
  | e :: r, b :: bs, i + 1, e', hl, h => by
    obtain ⟨b', h1⟩ := ents_get K kv r bs i e' (by simpa using hl) (by simpa using h)
    exact ⟨b', by simpa [ents] using h1⟩

theorem mpos_keys (m : List (κ × α)) (x : κ) : mpos ((m.map (·.1)).map fun k => (k, ())) x = mpos m x := by
  induction m with
  | nil => rfl
  | cons e r ih => simp only [List.map_cons, mpos, ih]

theorem run_find (K : Ky P t κ) (kv : α → Value) (w : World) (m : List (κ × α)) (bs : List Nat) (x : κ) (h : bs.length = m.length) :
    (Instr.findKey t (K.enc x) (ents K kv m bs)).run P w = .ok ((mpos m x).bind fun i => (m[i]?).map fun e => (i, kv e.2)) w := by
  rw [K.find w x _ (m.map (·.1)) (ents_keys K kv m bs h), mpos_keys]
  congr 1
  cases hp : mpos m x with
  | none => rfl
  | some i =>
    obtain ⟨v, _, h2⟩ := mpos_some hp
    obtain ⟨b, h3, _⟩ := ents_get K kv m bs i _ h h2
    simp [h2, h3]

theorem ents_push (K : Ky P t κ) (kv : α → Value) : ∀ (m : List (κ × α)) (bs : List Nat) (x : κ) (v : α) (c : Nat), bs.length = m.length → mpos m x = none →
    ents K kv m bs ++ [⟨K.enc x, kv v, c⟩] = ents K kv (mset m x v) (bs ++ [c])
  | [], [], x, v, c, _, _ => rfl
  | [], _ :: _, _, _, _, h, _ => by simp at h
  | _ :: _, [], _, _, _, h, _ => by simp at h
  | e :: r, b :: bs, x, v, c, h, hp => by
    simp only [mpos] at hp
    split at hp
    · cases hp
    · rename_i hk
      have := ents_push K kv r bs x v c (by simpa using h) (by simpa using hp)
      simp only [ents, List.cons_append, this, mset, hk, if_false]
theorem mset_len_none {m : List (κ × α)} {x : κ} {v : α} (h : mpos m x = none) : (mset m x v).length = m.length + 1 := by
  induction m with
  | nil => rfl
  | cons e r ih =>
    simp only [mpos] at h
    split at h
    · cases h
    · rename_i hk; simp [mset, hk, ih (by simpa using h)]
theorem mset_len_some {m : List (κ × α)} {x : κ} {v : α} {i : Nat} (h : mpos m x = some i) : (mset m x v).length = m.length := by
  induction m generalizing i with
  | nil => cases h
  | cons e r ih =>
    simp only [mpos] at h
    simp only [mset]
    split at h
    · rename_i hk; simp [hk]
    · rename_i hk
      cases hr : mpos r x with
      | none => simp [hr] at h
      | some j => simp [hk, ih hr]
theorem ents_modify (K : Ky P t κ) (kv : α → Value) : ∀ (m : List (κ × α)) (bs : List Nat) (x : κ) (v : α) (i : Nat), bs.length = m.length → mpos m x = some i →
    (ents K kv m bs).modify i (fun e => { e with key := K.enc x, val := kv v }) = ents K kv (mset m x v) bs
  | [], _, _, _, _, _, h => by cases h
  | _ :: _, [], _, _, _, h, _ => by simp at h
  | e :: r, b :: bs, x, v, i, h, hp => by
    simp only [mpos] at hp
    split at hp
    · rename_i hk
      simp at hp; subst hp
      simp [ents, mset, hk]
    · rename_i hk
      cases hr : mpos r x with
      | none => simp [hr] at hp
      | some j =>
        simp [hr] at hp; subst hp
        have := ents_modify K kv r bs x v j (by simpa using h) hr
        simp [ents, mset, hk, this]
theorem ents_erase (K : Ky P t κ) (kv : α → Value) : ∀ (m : List (κ × α)) (bs : List Nat) (x : κ) (i : Nat), bs.length = m.length → mpos m x = some i →
    (ents K kv m bs).eraseIdx i = ents K kv (mdel m x) (bs.eraseIdx i) ∧ (bs.eraseIdx i).length = (mdel m x).length
  | [], _, _, _, _, h => by cases h
  | _ :: _, [], _, _, h, _ => by simp at h
  | e :: r, b :: bs, x, i, h, hp => by
    simp only [mpos] at hp
    split at hp
    · rename_i hk
      simp at hp; subst hp
      simp [ents, mdel, hk]; simpa using h
    · rename_i hk
      cases hr : mpos r x with
      | none => simp [hr] at hp
      | some j =>
        simp [hr] at hp; subst hp
        have := ents_erase K kv r bs x j (by simpa using h) hr
        simp [ents, mdel, hk, this]
theorem mdel_none {m : List (κ × α)} {x : κ} (h : mpos m x = none) : mdel m x = m := by
  induction m with
  | nil => rfl
  | cons e r ih =>
    simp only [mpos] at h
    split at h
    · cases h
    · rename_i hk; simp [mdel, hk, ih (by simpa using h)]

/-- a map that may be read -/
def MapR (K : Ky P t κ) (kv : α → Value) (m : List (κ × α)) (r : Nat) (H : Hp) : Prop :=
  ∃ bs c, bs.length = m.length ∧ (r, Obj.map (ents K kv m bs).toArray c) ∈ H
/-- a map that is owned -/
def MapO (K : Ky P t κ) (kv : α → Value) (m : List (κ × α)) (r : Nat) (H : Hp) : Prop :=
  ∃ bs c, bs.length = m.length ∧ (bs.Nodup ∧ ∀ b ∈ bs, b < c) ∧ H = [(r, Obj.map (ents K kv m bs).toArray c)]
theorem MapO.r {K : Ky P t κ} {kv : α → Value} {m : List (κ × α)} {r : Nat} {H : Hp} (h : MapO K kv m r H) : MapR K kv m r H := by
  obtain ⟨bs, c, h1, _, rfl⟩ := h
  exact ⟨bs, c, h1, List.mem_cons_self ..⟩
theorem MapR.mono {K : Ky P t κ} {kv : α → Value} {m : List (κ × α)} {r : Nat} {H H' : Hp} (h : MapR K kv m r H) (hs : ∀ c ∈ H, c ∈ H') : MapR K kv m r H' := by
  obtain ⟨bs, c, h1, h2⟩ := h
  exact ⟨bs, c, h1, hs _ h2⟩
theorem mown_of {K : Ky P t κ} {kv : α → Value} {HL : List Hp} {j : Nat} {Hj : Hp} {m : List (κ × α)} {r : Nat} (h : MapO K kv m r Hj) (hj : idx j HL = some Hj) : MapR K kv m r HL.flatten :=
  h.r.mono fun _ hc => mem_group (by rw [← idx_eq]; exact hj) hc
theorem mro_of {K : Ky P t κ} {kv : α → Value} {HL : List Hp} {j : Nat} {Hj : Hp} {m : List (κ × α)} {r : Nat} (h : MapR K kv m r Hj) (hj : idx j HL = some Hj) : MapR K kv m r HL.flatten :=
  h.mono fun _ hc => mem_group (by rw [← idx_eq]; exact hj) hc

section rules
variable {T : Ty P} {n : Nat} {Q : Exit → Act → World → Prop} {env : Env} {H : Hp} {HL : List Hp} {ops : Array Oper} {i : Nat} {K : Act → World → Prop} {o : Oper}

theorem g_look [Inhabited α] (T : Ty P) {mt et : TypeId} (KK : Ky P t κ) (kv : α → Value) {x ix : Operand} {m : List (κ × α)} {r : Nat} {k : κ} {b : Bool} {sz by' : Nat}
    (hop : o.op = .lookup mt x ix b) (hx : ev env x = some (.map (some r))) (hk : ev env ix = some (KK.enc k)) (hu : T.und mt = some (.map t et))
    (hi : T.inf et = some (sz, by', kv default)) (hm : MapR KK kv m r H) :
    Gives W P n env H o (bif b then .tuple #[kv (mval m k), .bool (mhas m k)] else kv (mval m k)) := by
  intro t' w s ow
  obtain ⟨bs, c, hl, hm⟩ := hm
  have hb := ow.lookup hm
  unfold execOp
  have h1 := run_find KK kv w m bs k hl
  have h0 : (Instr.lookup mt (.map (some r)) (KK.enc k) b).run P w = .ok (bif b then .tuple #[kv (mval m k), .bool (mhas m k)] else kv (mval m k)) w := by
    simp only [Instr.lookup, Sem.run_bind, run_und hu, Result.andThen_ok, MapKept.run_getObj_map hb, KK.check, h1]
    cases hp : mpos m k with
    | none =>
      have := mpos_none hp
      cases b <;> simp [mval, mhas, this, run_zero hi, Result.andThen, h1, hp]
    | some j =>
      obtain ⟨v, h2, h3⟩ := mpos_some hp
      cases b <;> simp [mval, mhas, h2, h3, Result.andThen, h1, hp]
  simp only [hop, ev_eval s hx, ev_eval s hk, Sem.run_bind, h0, Result.andThen_ok]
  rfl

theorem g_mlen (T : Ty P) {mt et : TypeId} (KK : Ky P t κ) (kv : α → Value) {x : Operand} {m : List (κ × α)} {r : Nat}
    (hop : o.op = .call ⟨.builtin .len, #[x], #[mt]⟩) (hx : ev env x = some (.map (some r))) (hu : T.und mt = some (.map t et)) (hm : MapR KK kv m r H) :
    Gives W P n env H o (.int .i64 (m.length : Nat)) := by
  intro t' w s ow
  obtain ⟨bs, c, hl, hm⟩ := hm
  have hb := ow.lookup hm
  obtain ⟨cs, hr⟩ := run_builtin (P := P) (t := t') w hop
  rw [hr]
  simp only [List.map_toArray, List.map_cons, List.map_nil, ev_eval s hx, builtin, Builtin.len_, Sem.run_bind, List.getElem?_toArray, List.getElem?_cons_zero, Sem.run_pure, Result.andThen_ok, run_und hu, MapKept.run_getObj_map hb]
  simp [goInt, ents_length KK kv m bs hl]

theorem setObj_own {w : World} {b : Nat} {es es' : Array MapEntry} {c c' : Nat} {Hr : Hp} (ow : Own W w ((b, .map es c) :: Hr)) :
    ∃ w', (setObj b (.map es' c')).run P w = .ok () w' ∧ Own W w' ((b, .map es' c') :: Hr) := by
  have hb := ow.lookup (List.mem_cons_self ..)
  refine ⟨_, MapKept.run_setObj_map _ hb, ?_⟩
  exact ow.turn (o' := .map es' c') (by rfl) rfl rfl rfl

theorem at_mm (T : Ty P) {d mt et : TypeId} (KK : Ky P t κ) (kv : α → Value) {rv : Option Operand} (hs : slot n ops env i = some (o, d)) (hop : o.op = .makeMap mt rv) (hu : T.und mt = some (.map t et))
    (hr : match rv with | none => True | some x => ∃ k j, ev env x = some (.int k j))
    (h : ∀ r H', MapO KK kv ([] : List (κ × α)) r H' → AtL W n K ((d, .map (some r)) :: env) (HL ++ [H'])) : AtL W n (wpOp P ops Q i K) env HL := by
  obtain ⟨ho, hw, hd, hn⟩ := slot_spec hs
  refine at_val_w (β := { p : Nat × Hp // MapO KK kv ([] : List (κ × α)) p.1 p.2 }) (V := fun p => .map (some p.1.1)) (G := fun p => (HL ++ [p.1.2]).flatten) ho hw hd hn (fun tt w s ow => ?_) (fun p => h _ _ p.2)
  refine ⟨⟨(w.heap.size, [(w.heap.size, .map #[] 0)]), ⟨[], 0, rfl, by simp, rfl⟩⟩, w.alloc (.map #[] 0), ?_, own_group_new _ ow⟩
  unfold execOp
  cases rv with
  | none => simp [hop, Instr.makeMap]
  | some x =>
    obtain ⟨k, j, hx⟩ := hr
    simp [hop, Instr.makeMap, run_und hu, ev_eval s hx, asInt, asIntOf]

theorem update_run (T : Ty P) {mt et : TypeId} (KK : Ky P t κ) (kv : α → Value) {m : List (κ × α)} {r g : Nat} {k : κ} {v : α} {Hj : Hp} {w : World}
    (hu : T.und mt = some (.map t et)) (hj : idx g HL = some Hj) (so : MapO KK kv m r Hj) (ow : Own W w HL.flatten) :
    ∃ H' w', (Instr.mapUpdate mt (.map (some r)) (KK.enc k) (kv v)).run P w = .ok () w' ∧ MapO KK kv (mset m k v) r H' ∧ Own W w' (HL.set g H').flatten := by
  obtain ⟨bs, c, hl, ⟨hn, hc⟩, rfl⟩ := so
  have hj' : HL[g]? = some [(r, Obj.map (ents KK kv m bs).toArray c)] := by rw [← idx_eq]; exact hj
  have ow1 := own_get hj' ow
  have hb := ow1.lookup (b := r) (o := Obj.map (ents KK kv m bs).toArray c) (by simp)
  have h1 := run_find KK kv w m bs k hl
  cases hp : mpos m k with
  | none =>
    obtain ⟨w', hr, ow'⟩ := setObj_own (P := P) (es' := ((ents KK kv m bs).toArray.push ⟨KK.enc k, kv v, c⟩)) (c' := c + 1) (by simpa using ow1)
    refine ⟨[(r, .map (ents KK kv (mset m k v) (bs ++ [c])).toArray (c + 1))], w', ?_, ⟨bs ++ [c], c + 1, by simp [mset_len_none hp, hl], ⟨?_, ?_⟩, rfl⟩, own_set hj' ?_⟩
    · simp only [Instr.mapUpdate, Sem.run_bind, run_und hu, Result.andThen_ok, MapKept.run_getObj_map hb, KK.check, h1, hp, Option.bind_none, hr]
    · rw [List.nodup_append]
      exact ⟨hn, by simp, fun a ha b hb => by simp at hb; subst hb; exact Nat.ne_of_lt (hc a ha)⟩
    · intro b hb
      rcases List.mem_append.1 hb with hb | hb
      · exact Nat.lt_succ_of_lt (hc b hb)
      · simp at hb; omega
    · rw [← ents_push KK kv m bs k v c hl hp]
      simpa using ow'
  | some j =>
    obtain ⟨v0, h2, h3⟩ := mpos_some hp
    obtain ⟨b0, h4, h5⟩ := ents_get KK kv m bs j _ hl h3
    obtain ⟨w', hr, ow'⟩ := setObj_own (P := P) (es' := ((ents KK kv m bs).toArray.modify j fun e => { e with key := KK.enc k, val := kv v })) (c' := c) (by simpa using ow1)
    refine ⟨[(r, .map (ents KK kv (mset m k v) bs).toArray c)], w', ?_, ⟨bs, c, by rw [mset_len_some hp, hl], ⟨hn, hc⟩, rfl⟩, own_set hj' ?_⟩
    · simp only [Instr.mapUpdate, Sem.run_bind, run_und hu, Result.andThen_ok, MapKept.run_getObj_map hb, KK.check, h1, hp, Option.bind_some, h3, Option.map_some]
      simp only [List.getElem?_toArray, h4, Option.map_some, Option.getD_some, KK.stays, Result.andThen_ok, hr]
    · rw [← ents_modify KK kv m bs k v j hl hp]
      simpa using ow'

theorem at_mu (T : Ty P) {mt et : TypeId} (KK : Ky P t κ) (kv : α → Value) {x ix y : Operand} {m : List (κ × α)} {r g : Nat} {k : κ} {v : α} {Hj : Hp}
    (hs : slot0 ops env i = some o) (hop : o.op = .mapUpdate mt x ix y) (hx : ev env x = some (.map (some r))) (hk : ev env ix = some (KK.enc k)) (hy : ev env y = some (kv v))
    (hu : T.und mt = some (.map t et)) (hj : idx g HL = some Hj) (so : MapO KK kv m r Hj)
    (h : ∀ H', MapO KK kv (mset m k v) r H' → AtL W n K env (HL.set g H')) : AtL W n (wpOp P ops Q i K) env HL := by
  obtain ⟨ho, hw, hd⟩ := slot0_spec hs
  refine at_unit_w (β := { H' : Hp // MapO KK kv (mset m k v) r H' }) (G := fun p => (HL.set g p.1).flatten) ho hw hd (fun tt w s ow => ?_) (fun p => h _ p.2)
  obtain ⟨H', w', hr, hso, ow'⟩ := update_run (P := P) T (v := v) (k := k) KK kv hu hj so ow
  refine ⟨⟨H', hso⟩, w', .inl ?_, ow'⟩
  unfold execOp
  simp only [hop, ev_eval s hx, ev_eval s hk, ev_eval s hy, Sem.run_bind, hr, Result.andThen_ok]
  rfl

theorem delete_run (T : Ty P) {mt et t2 ty : TypeId} (KK : Ky P t κ) (kv : α → Value) {m : List (κ × α)} {r g : Nat} {k : κ} {Hj : Hp} {w : World}
    (hu : T.und mt = some (.map t et)) (hj : idx g HL = some Hj) (so : MapO KK kv m r Hj) (ow : Own W w HL.flatten) :
    ∃ H' w', (Builtin.delete_ #[mt, t2] ty #[.map (some r), KK.enc k]).run P w = .ok (.tuple #[]) w' ∧ MapO KK kv (mdel m k) r H' ∧ Own W w' (HL.set g H').flatten := by
  obtain ⟨bs, c, hl, ⟨hn, hc⟩, rfl⟩ := so
  have hj' : HL[g]? = some [(r, Obj.map (ents KK kv m bs).toArray c)] := by rw [← idx_eq]; exact hj
  have ow1 := own_get hj' ow
  have hb := ow1.lookup (b := r) (o := Obj.map (ents KK kv m bs).toArray c) (by simp)
  have h1 := run_find KK kv w m bs k hl
  cases hp : mpos m k with
  | none =>
    obtain ⟨w', hr, ow'⟩ := setObj_own (P := P) (es' := (ents KK kv m bs).toArray) (c' := c) (by simpa using ow1)
    refine ⟨[(r, .map (ents KK kv (mdel m k) bs).toArray c)], w', ?_, ⟨bs, c, by rw [mdel_none hp, hl], ⟨hn, hc⟩, rfl⟩, own_set hj' ?_⟩
    · simp [Builtin.delete_, run_und hu, MapKept.run_getObj_map hb, KK.check, h1, hp, hr]
    · rw [mdel_none hp]; simpa using ow'
  | some j =>
    obtain ⟨v0, h2, h3⟩ := mpos_some hp
    obtain ⟨e1, e2⟩ := ents_erase KK kv m bs k j hl hp
    obtain ⟨w', hr, ow'⟩ := setObj_own (P := P) (es' := ((ents KK kv m bs).toArray.eraseIdxIfInBounds j)) (c' := c) (by simpa using ow1)
    have this : ((ents KK kv m bs).toArray.eraseIdxIfInBounds j) = ((ents KK kv m bs).eraseIdx j).toArray := by apply Array.ext'; simp
    rw [this] at hr ow'
    refine ⟨[(r, .map (ents KK kv (mdel m k) (bs.eraseIdx j)).toArray c)], w', ?_, ⟨bs.eraseIdx j, c, e2, ⟨hn.sublist (List.eraseIdx_sublist ..), fun b hb => hc b (List.mem_of_mem_eraseIdx hb)⟩, rfl⟩, own_set hj' ?_⟩
    · simp [Builtin.delete_, run_und hu, MapKept.run_getObj_map hb, KK.check, h1, hp, h3, hr]
    · rw [← e1]
      simpa using ow'

theorem at_md (T : Ty P) {mt t2 et : TypeId} (KK : Ky P t κ) (kv : α → Value) {x ix : Operand} {m : List (κ × α)} {r g : Nat} {k : κ} {Hj : Hp}
    (ho : ops[i]? = some o) (hw : want ops env o = some true) (hd : o.dst = none) (hop : o.op = .call ⟨.builtin .delete, #[x, ix], #[mt, t2]⟩) (hx : ev env x = some (.map (some r))) (hk : ev env ix = some (KK.enc k))
    (hu : T.und mt = some (.map t et)) (hj : idx g HL = some Hj) (so : MapO KK kv m r Hj)
    (h : ∀ H', MapO KK kv (mdel m k) r H' → AtL W n K env (HL.set g H')) : AtL W n (wpOp P ops Q i K) env HL := by
  refine at_unit_w (β := { H' : Hp // MapO KK kv (mdel m k) r H' }) (G := fun p => (HL.set g p.1).flatten) ho hw hd (fun tt w s ow => ?_) (fun p => h _ p.2)
  obtain ⟨H', w', hr, hso, ow'⟩ := delete_run (P := P) T (t2 := t2) (ty := o.type) (k := k) KK kv hu hj so ow
  refine ⟨⟨H', hso⟩, w', .inr ⟨.tuple #[], ?_⟩, ow'⟩
  obtain ⟨cs, hb⟩ := run_builtin (P := P) (t := tt) w hop
  rw [hb]
  simp only [List.map_toArray, List.map_cons, List.map_nil, ev_eval s hx, ev_eval s hk, builtin, Sem.run_bind]
  refine Eq.trans (congrArg (fun r => Result.andThen r _) hr) ?_
  simp only [Result.andThen_ok, Sem.run_pure]
end rules
end objs
end

section
variable {W : World}
variable {P : Program}

theorem arr_1 {α : Type} {cs : Array α} (h : cs.size = 1) : ∃ a, cs = #[a] := by
  match cs, h with
  | ⟨[a]⟩, _ => exact ⟨a, rfl⟩
theorem arr_2 {α : Type} {cs : Array α} (h : cs.size = 2) : ∃ a b, cs = #[a, b] := by
  match cs, h with
  | ⟨[a, b]⟩, _ => exact ⟨a, b, rfl⟩
theorem arr_3 {α : Type} {cs : Array α} (h : cs.size = 3) : ∃ a b c, cs = #[a, b, c] := by
  match cs, h with
  | ⟨[a, b, c]⟩, _ => exact ⟨a, b, c, rfl⟩
theorem arr_4 {α : Type} {cs : Array α} (h : cs.size = 4) : ∃ a b c d, cs = #[a, b, c, d] := by
  match cs, h with
  | ⟨[a, b, c, d]⟩, _ => exact ⟨a, b, c, d, rfl⟩

/-! ### two structs of plain things: are they equal -/
def eqPrim (T : Ty P) (t : TypeId) (a b : Value) : Option Bool :=
  match T.und t, a, b with
  | some (.int _), .int k x, .int k' y => bif ikeq k k' then some (x == y) else none
  | some .bool, .bool x, .bool y => some (x == y)
  | _, _, _ => none
theorem eqPrim_run {T : Ty P} {t : TypeId} {a b : Value} {e : Bool} (h : eqPrim T t a b = some e) (d : Nat) (w : World) : (Op.equalIn (d + 1) t a b).run P w = .ok e w := by
  unfold eqPrim at h
  split at h
  · rename_i hu
    rename_i k x k' y
    cases hk : ikeq k k' <;> simp [hk] at h
    subst h
    obtain rfl := ikeq_eq hk
    simp only [Op.equalIn, Sem.run_bind, run_und hu, Result.andThen_ok, if_true, Sem.run_pure]
  · rename_i hu
    simp at h; subst h
    simp only [Op.equalIn, Sem.run_bind, run_und hu, Result.andThen_ok, Sem.run_pure]
  · cases h

def eqL (T : Ty P) (xs ys : List Value) : List Field → Option Bool
  | [] => some true
  | f :: r => match partL T f.type xs f.offset, partL T f.type ys f.offset with
    | some a, some b => match eqPrim T f.type a b, eqL T xs ys r with
      | some e, some e' => some (e && e')
      | _, _ => none
    | _, _ => none

theorem eqL_run {T : Ty P} {xs ys : Array Value} (d : Nat) (w : World) : ∀ (fs : List Field) (e : Bool), (∀ f ∈ fs, f.name ≠ "_") → eqL T xs.toList ys.toList fs = some e →
    (forIn (m := Sem) fs (⟨none, ()⟩ : Option Bool × Unit) fun f _ => do
      if f.name ≠ "_" then
        if !(← Op.equalIn (d + 1) f.type (← part f.type xs f.offset) (← part f.type ys f.offset)) then pure (ForInStep.done ⟨some false, ()⟩) else pure (ForInStep.yield ⟨none, ()⟩)
      else pure (ForInStep.yield ⟨none, ()⟩)).run P w = .ok (if e then ⟨none, ()⟩ else ⟨some false, ()⟩) w := by
  intro fs
  induction fs with
  | nil => intro e _ h; simp [eqL] at h; subst h; simp
  | cons f r ih =>
    intro e hn h
    simp only [eqL] at h
    split at h
    · rename_i a b h1 h2
      split at h
      · rename_i e1 e2 h3 h4
        simp at h; subst h
        have hf := hn f (by simp)
        rw [List.forIn_cons]
        simp only [hf, ne_eq, not_false_eq_true, if_true, Sem.run_bind, partL_run h1, partL_run h2, eqPrim_run h3, Result.andThen_ok]
        cases e1
        · simp
        · simp only [Bool.not_true, Bool.false_eq_true, if_false, Sem.run_pure, Result.andThen_ok, Bool.true_and]
          exact ih e2 (fun f hf => hn f (by simp [hf])) h4
      · cases h
    · cases h

theorem aeq_run {T : Ty P} {t : TypeId} {fs : Array Field} {xs ys : Array Value} {e : Bool} (hu : T.und t = some (.struct fs)) (hs : P.stoodInHeld t = false) (hn : fs.toList.all (fun f => f.name != "_") = true)
    (h : eqL T xs.toList ys.toList fs.toList = some e) (w : World) : (Op.equal t (.agg xs) (.agg ys)).run P w = .ok e w := by
  show (Op.equalIn (9998 + 1 + 1) t _ _).run P w = _
  generalize 9998 = d
  have hn' : ∀ f ∈ fs.toList, f.name ≠ "_" := fun f hf => by simpa using List.all_eq_true.1 hn f hf
  have := eqL_run (P := P) d w fs.toList e hn' h
  rw [Op.equalIn]
  simp only [Sem.run_bind, run_und hu, Result.andThen_ok, run_program, hs, Bool.false_eq_true, if_false]
  rw [← Array.forIn_toList]
  refine Eq.trans (congrArg (fun r => Result.andThen r _) this) ?_
  cases e <;> simp

section rules
variable {T : Ty P} {n : Nat} {env : Env} {H : Hp} {o : Oper}
theorem guard_no {w : World} {op : BinOp} {t : TypeId} {x y : Operand} {a b : Array Value} (h : P.eqGuardType P.depth t = false) : (eqGuard op t x y (.agg a) (.agg b)).run P w = .ok () w := by
  unfold eqGuard
  rw [Sem.run_ite]
  refine ite_both (fun _ => rfl) (fun _ => ?_)
  simp [h]
theorem g_aeq (T : Ty P) {t yt : TypeId} {x y : Operand} {fs : Array Field} {xs ys : Array Value} (e : Bool) (hop : o.op = .binOp .eql t x y yt) (hx : ev env x = some (.agg xs)) (hy : ev env y = some (.agg ys))
    (hu : T.und t = some (.struct fs)) (hs : P.stoodInHeld t = false ∧ P.eqGuardType P.depth t = false) (hn : fs.toList.all (fun f => f.name != "_") = true) (h : eqL T xs.toList ys.toList fs.toList = some e) :
    Gives W P n env H o (.bool e) := by
  intro t1 w s ow
  unfold execOp
  simp only [hop, ev_eval s hx, ev_eval s hy]
  simp only [Sem.run_bind, guard_no hs.2, Result.andThen_ok, binOp, aeq_run hu hs.1 hn h w, Sem.run_pure]
theorem g_aeqn (T : Ty P) {t yt : TypeId} {x y : Operand} {fs : Array Field} {xs ys : Array Value} (e : Bool) (hop : o.op = .binOp .neq t x y yt) (hx : ev env x = some (.agg xs)) (hy : ev env y = some (.agg ys))
    (hu : T.und t = some (.struct fs)) (hs : P.stoodInHeld t = false ∧ P.eqGuardType P.depth t = false) (hn : fs.toList.all (fun f => f.name != "_") = true) (h : eqL T xs.toList ys.toList fs.toList = some e) :
    Gives W P n env H o (.bool (!e)) := by
  intro t1 w s ow
  unfold execOp
  simp only [hop, ev_eval s hx, ev_eval s hy]
  simp only [Sem.run_bind, guard_no hs.2, Result.andThen_ok, binOp, aeq_run hu hs.1 hn h w, Sem.run_pure]
end rules
end

section
/-! ### plain things -/
theorem wi {x : Int} (h1 : -9223372036854775808 ≤ x) (h2 : x ≤ 9223372036854775807) : w64 x = x := by
  unfold w64 IntKind.wrap IntKind.signed IntKind.bits
  simp
  omega
theorem w8i {x : Int} (h1 : 0 ≤ x) (h2 : x ≤ 255) : wu8 x = x := by
  unfold wu8 IntKind.wrap IntKind.signed IntKind.bits
  simp
  omega
theorem w32i {x : Int} (h1 : 0 ≤ x) (h2 : x ≤ 4294967295) : wu32 x = x := by
  unfold wu32 IntKind.wrap IntKind.signed IntKind.bits
  simp
  omega
theorem w64_rng (x : Int) : inI64 (w64 x) := by
  unfold w64 IntKind.wrap IntKind.signed IntKind.bits inI64
  simp
  omega
theorem w8_rng (x : Int) : inU8 (wu8 x) := by
  unfold wu8 IntKind.wrap IntKind.signed IntKind.bits inU8
  simp
  omega
theorem fuelv : fuel = 18446744073709551616 := by unfold fuel; rfl
theorem kpos {n k : Nat} (h : n < k) : ∃ q, k = q + 1 := ⟨k - 1, by omega⟩

section lists
variable {α : Type} [Inhabited α]
theorem rds {L : List α} {i c : Int} {v : α} (h0 : 0 ≤ i) (h1 : i < L.length) (c0 : 0 ≤ c) : rd (List.set L i.toNat v) c = if c = i then v else rd L c := by
  unfold rd
  by_cases hc : c = i
  · subst hc; rw [if_pos rfl]; simp [List.getD, show c.toNat < L.length by omega]
  · rw [if_neg hc]
    have : i.toNat ≠ c.toNat := by omega
    simp [List.getD, this]
theorem rda {L : List α} {v : α} {c : Int} (c0 : 0 ≤ c) (h : c ≤ L.length) : rd (L ++ [v]) c = if c = L.length then v else rd L c := by
  unfold rd
  by_cases hc : c = L.length
  · rw [if_pos hc, hc]; simp [List.getD]
  · rw [if_neg hc]
    simp [List.getD, List.getElem?_append_left (show c.toNat < L.length by omega)]
theorem rdl {L M : List α} {c : Int} (c0 : 0 ≤ c) (h : c < L.length) : rd (L ++ M) c = rd L c := by
  unfold rd
  simp [List.getD, List.getElem?_append_left (show c.toNat < L.length by omega)]
theorem rdr {L M : List α} {c : Int} (h : L.length ≤ c) : rd (L ++ M) c = rd M (c - L.length) := by
  unfold rd
  have h1 : ¬ c.toNat < L.length := by omega
  simp [List.getD, List.getElem?_append_right (show L.length ≤ c.toNat by omega), show (c - (L.length : Int)).toNat = c.toNat - L.length by omega]
theorem rdrep {n : Nat} {v : α} {c : Int} (c0 : 0 ≤ c) (h : c < n) : rd (List.replicate n v) c = v := by
  unfold rd
  simp [List.getD, show c.toNat < n by omega]
theorem rdmap {β : Type} [Inhabited β] {L : List β} {f : β → α} {c : Int} (c0 : 0 ≤ c) (h : c < L.length) : rd (L.map f) c = f (rd L c) := by
  unfold rd
  simp [List.getD, show c.toNat < L.length by omega]
theorem rdn {L : List α} {n : Nat} (h : n < L.length) : rd L (n : Int) = L[n] := by simp [rd, h]
theorem dropc {a : List α} {i : Int} (h0 : 0 ≤ i) (h1 : i < a.length) : a.drop i.toNat = rd a i :: a.drop (i + 1).toNat := by
  have hlt : i.toNat < a.length := by omega
  rw [rd_eq hlt, show (i + 1).toNat = i.toNat + 1 by omega]
  exact List.drop_eq_getElem_cons hlt
theorem takec {a : List α} {i : Int} (h0 : 0 ≤ i) (h1 : i < a.length) : a.take (i + 1).toNat = a.take i.toNat ++ [rd a i] := by
  have hlt : i.toNat < a.length := by omega
  rw [rd_eq hlt, show (i + 1).toNat = i.toNat + 1 by omega, List.take_add_one, List.getElem?_eq_getElem hlt]; rfl
theorem rdmem {a : List α} {i : Int} (h0 : 0 ≤ i) (h1 : i < a.length) : rd a i ∈ a := by
  have hlt : i.toNat < a.length := by omega
  rw [rd_eq hlt]; exact List.getElem_mem hlt
theorem memrd {a : List α} {x : α} (h : x ∈ a) : ∃ i : Int, 0 ≤ i ∧ i < a.length ∧ rd a i = x := by
  obtain ⟨n, hn, rfl⟩ := List.mem_iff_getElem.1 h
  exact ⟨n, by omega, by omega, rdn hn⟩
theorem rdext {a b : List α} (hl : a.length = b.length) (h : ∀ i : Int, 0 ≤ i → i < a.length → rd a i = rd b i) : a = b := by
  apply List.ext_getElem hl
  intro n h1 h2
  have := h n (by omega) (by omega)
  rwa [rdn h1, rdn h2] at this
theorem pairrd {a : List α} {R : α → α → Prop} (h : a.Pairwise R) {i j : Int} (h0 : 0 ≤ i) (h1 : i < j) (h2 : j < a.length) : R (rd a i) (rd a j) := by
  have hi : i.toNat < a.length := by omega
  have hj : j.toNat < a.length := by omega
  rw [rd_eq hi, rd_eq hj]
  exact List.pairwise_iff_getElem.1 h _ _ hi hj (by omega)
theorem rdpair {a : List α} {R : α → α → Prop} (h : ∀ i j : Int, 0 ≤ i → i < j → j < a.length → R (rd a i) (rd a j)) : a.Pairwise R := by
  rw [List.pairwise_iff_getElem]
  intro i j hi hj hij
  have := h i j (by omega) (by omega) (by omega)
  rwa [rdn hi, rdn hj] at this
end lists

section maps
variable {κ α : Type} [DecidableEq κ]
theorem mget_mset (m : List (κ × α)) (x y : κ) (v : α) : mget (mset m x v) y = if x = y then some v else mget m y := by
  induction m with
  | nil => simp [mset, mget]
  | cons e r ih =>
    simp only [mset, mget]
    by_cases h1 : e.1 = x
    · rw [if_pos h1]
      simp only [mget]
      by_cases h2 : x = y
      · simp [h2]
      · simp [h2, h1]
    · rw [if_neg h1]
      simp only [mget]
      by_cases h2 : e.1 = y
      · rw [if_pos h2, if_pos h2, if_neg (fun e' => h1 (h2.trans e'.symm))]
      · rw [if_neg h2, if_neg h2, ih]
theorem mget_none {m : List (κ × α)} {x : κ} : mget m x = none ↔ x ∉ m.map (·.1) := by
  induction m with
  | nil => simp [mget]
  | cons e r ih =>
    simp only [mget, List.map_cons, List.mem_cons, not_or]
    by_cases h : e.1 = x
    · rw [if_pos h]; simp [h]
    · rw [if_neg h, ih]
      exact ⟨fun q => ⟨fun z => h z.symm, q⟩, fun q => q.2⟩
theorem mget_mdel {m : List (κ × α)} (hn : (m.map (·.1)).Nodup) (x y : κ) : mget (mdel m x) y = if x = y then none else mget m y := by
  induction m with
  | nil => simp [mdel, mget]
  | cons e r ih =>
    simp only [List.map_cons, List.nodup_cons] at hn
    simp only [mdel, mget]
    by_cases h1 : e.1 = x
    · rw [if_pos h1]
      by_cases h2 : x = y
      · rw [if_pos h2, mget_none, ← h2, ← h1]; exact hn.1
      · rw [if_neg h2, if_neg (fun e' => h2 (h1.symm.trans e'))]
    · rw [if_neg h1]
      simp only [mget]
      by_cases h2 : e.1 = y
      · rw [if_pos h2, if_pos h2, if_neg (fun e' => h1 (h2.trans e'.symm))]
      · rw [if_neg h2, if_neg h2, ih hn.2]
theorem mhas_mset (m : List (κ × α)) (x y : κ) (v : α) : mhas (mset m x v) y = (decide (x = y) || mhas m y) := by
  unfold mhas; rw [mget_mset]
  by_cases h : x = y <;> simp [h]
theorem mhas_mdel {m : List (κ × α)} (hn : (m.map (·.1)).Nodup) (x y : κ) : mhas (mdel m x) y = (!decide (x = y) && mhas m y) := by
  unfold mhas; rw [mget_mdel hn]
  by_cases h : x = y <;> simp [h]
theorem mval_mset [Inhabited α] (m : List (κ × α)) (x y : κ) (v : α) : mval (mset m x v) y = if x = y then v else mval m y := by
  unfold mval; rw [mget_mset]
  by_cases h : x = y <;> simp [h]
theorem mval_mdel [Inhabited α] {m : List (κ × α)} (hn : (m.map (·.1)).Nodup) (x y : κ) : mval (mdel m x) y = if x = y then default else mval m y := by
  unfold mval; rw [mget_mdel hn]
  by_cases h : x = y <;> simp [h]
theorem mhas_iff {m : List (κ × α)} {x : κ} : mhas m x = true ↔ ∃ v, mget m x = some v := by
  unfold mhas; rw [Option.isSome_iff_exists]
theorem mval_some [Inhabited α] {m : List (κ × α)} {x : κ} {v : α} (h : mget m x = some v) : mval m x = v := by simp [mval, h]
theorem mhas_some {m : List (κ × α)} {x : κ} {v : α} (h : mget m x = some v) : mhas m x = true := by simp [mhas, h]
theorem mkeys_mset {m : List (κ × α)} {x : κ} {v : α} : (mset m x v).map (·.1) = if x ∈ m.map (·.1) then m.map (·.1) else m.map (·.1) ++ [x] := by
  induction m with
  | nil => simp [mset]
  | cons e r ih =>
    simp only [mset]
    by_cases h : e.1 = x
    · rw [if_pos h]; simp [h]
    · rw [if_neg h]
      have h' : ¬ x = e.1 := fun q => h q.symm
      simp only [List.map_cons, ih, List.mem_cons, h', false_or]
      split <;> simp
theorem mkeys_nodup {m : List (κ × α)} (hn : (m.map (·.1)).Nodup) (x : κ) (v : α) : ((mset m x v).map (·.1)).Nodup := by
  rw [mkeys_mset]
  split
  · exact hn
  · rw [List.nodup_append]
    exact ⟨hn, by simp, fun a ha b hb e => by simp at hb; subst hb; subst e; contradiction⟩
theorem mdel_sub {m : List (κ × α)} {x : κ} : (mdel m x).Sublist m := by
  induction m with
  | nil => simp [mdel]
  | cons e r ih =>
    simp only [mdel]
    by_cases h : e.1 = x
    · rw [if_pos h]; exact List.sublist_cons_self ..
    · rw [if_neg h]; exact ih.cons_cons e
theorem mdel_nodup {m : List (κ × α)} (hn : (m.map (·.1)).Nodup) (x : κ) : ((mdel m x).map (·.1)).Nodup := hn.sublist (mdel_sub.map _)
theorem mset_length {m : List (κ × α)} {x : κ} {v : α} : (mset m x v).length = if mhas m x = true then m.length else m.length + 1 := by
  induction m with
  | nil => simp [mset, mhas, mget]
  | cons e r ih =>
    simp only [mset]
    by_cases h : e.1 = x
    · rw [if_pos h]; simp [mhas, mget, h]
    · rw [if_neg h]
      have : mhas (e :: r) x = mhas r x := by simp [mhas, mget, h]
      rw [this]; simp only [List.length_cons, ih]; split <;> rfl
theorem mdel_length {m : List (κ × α)} {x : κ} : (mdel m x).length = if mhas m x = true then m.length - 1 else m.length := by
  induction m with
  | nil => simp [mdel, mhas, mget]
  | cons e r ih =>
    simp only [mdel]
    by_cases h : e.1 = x
    · rw [if_pos h]; simp [mhas, mget, h]
    · rw [if_neg h]
      have h2 : mhas (e :: r) x = mhas r x := by simp [mhas, mget, h]
      rw [h2]; simp only [List.length_cons, ih]
      split
      · rename_i hh
        have : r ≠ [] := by intro e'; subst e'; simp [mhas, mget] at hh
        have : 0 < r.length := List.length_pos_iff.2 this
        omega
      · rfl
end maps
end

section
variable {W : World}
variable {P : Program}

section rules
variable {T : Ty P} {n : Nat} {env : Env} {H : Hp} {HL : List Hp} {o : Oper}

/-! ### arrays -/
theorem g_abuild (T : Ty P) {t e len sz by' s2 b2 : Nat} {z z2 : Value} {parts : Array (Nat × Operand)} {vs : List (Nat × Value)} {cs : List Value} (hop : o.op = .build t parts)
    (hu : T.und t = some (.array len e)) (hi : T.inf t = some (s2, b2, z2)) (he : T.inf e = some (sz, by', z)) (hv : (parts.toList.mapM fun p => (ev env p.2).map fun v => (p.1, v)) = some vs)
    (hf : fillL (fun i => some (i * sz, sz)) (cellsL z2) vs = some cs) : Gives W P n env H o (.agg cs.toArray) := by
  intro t' w s ow
  unfold execOp
  have h1 : cellsL z2 = (z2.cells).toList := (cellsL_eq z2).symm
  rw [h1] at hf
  have h2 := fill_toList _ _ _ _ hf
  have h4 := evps_eval s hv
  have h6 : (parts.map fun (x : Nat × Operand) => (x.1, Act.eval ⟨t', []⟩ x.2)).toList = vs := by rw [← h4]; simp
  simp only [hop, Instr.build, Sem.run_bind, run_zero hi, Result.andThen_ok, run_und hu, run_size he, h6, h2, Sem.run_pure]

theorem g_aidx {α : Type} [Inhabited α] (T : Ty P) (k : Fl α) (xs : List α) {t e len sz by' : Nat} {z v : Value} {td : TypeDesc} {x ix : Operand} {kk : IntKind} {j : Int} (hop : o.op = .index t x ix)
    (hx : ev env x = some (.agg (row k xs).toArray)) (hix : ev env ix = some (.int kk j)) (hu : T.und t = some (.array len e)) (he : T.inf e = some (sz, by', z)) (hue : T.und e = some td) (ha : aggT td = false)
    (hk : k.size = sz) (hl : xs.length = len) (hb : 0 ≤ j ∧ j < (xs.length : Int)) (hv : idx 0 (k.enc (rd xs j)) = some v) : Gives W P n env H o v := by
  intro t' w s ow
  unfold execOp
  have hj : j.toNat < xs.length := by omega
  have hp := k.pos
  have hg := row_get k xs j.toNat 0 hj hp
  rw [rd_eq hj, idx_eq] at hv
  rw [hv, hk, Nat.add_zero] at hg
  have hc : 0 ≤ j ∧ j < (len : Int) := by omega
  have hpart : (part e (row k xs).toArray (j.toNat * sz)).run P w = .ok v w := by
    refine partL_run (T := T) ?_ w
    unfold partL
    simp only [hue, he, ha, cond_false, idx_eq]
    exact hg
  simp only [hop, ev_eval s hx, ev_eval s hix, Instr.index, asIntOf, Sem.run_bind, Sem.run_pure, Result.andThen_ok, run_und hu, Sem.run_ite, hc, and_self, if_true, run_size he, hpart]

/-! ### what is only read -/
theorem in_ro {F : Hp} {j b : Nat} {arr : Array Value} {E : TypeId} {fr : Nat × Nat} {off : Nat} {v : Value} (hm : (b, Obj.cells arr E fr) ∈ F) (hj : idx j HL = some F) (hv : idx off arr.toList = some v) :
    ∃ arr E fr, (b, Obj.cells arr E fr) ∈ HL.flatten ∧ arr[off]? = some v :=
  ⟨arr, E, fr, mem_group (by rw [← idx_eq]; exact hj) hm, by rw [idx_eq] at hv; simpa using hv⟩
theorem in_roA {F : Hp} {j b : Nat} {arr : Array Value} {E : TypeId} {fr : Nat × Nat} {off : Nat} {cs : List Value} (hm : (b, Obj.cells arr E fr) ∈ F) (hj : idx j HL = some F) (hv : (arr.toList.drop off).take cs.length = cs) :
    ∃ arr E fr, (b, Obj.cells arr E fr) ∈ HL.flatten ∧ ∀ j v, cs[j]? = some v → arr[off + j]? = some v :=
  ⟨arr, E, fr, mem_group (by rw [← idx_eq]; exact hj) hm, fun j v h => by
    rw [← hv] at h
    have hl := (List.getElem?_eq_some_iff.1 h).1
    rw [List.getElem?_take_of_lt (by simp at hl; omega), List.getElem?_drop] at h
    simpa using h⟩
theorem mem_ro {F : Hp} {j : Nat} {c : Nat × Obj} (hm : c ∈ F) (hj : idx j HL = some F) : c ∈ HL.flatten := mem_group (by rw [← idx_eq]; exact hj) hm
theorem mem_own {j b : Nat} {ob : Obj} {Hr : Hp} (hj : idx j HL = some ((b, ob) :: Hr)) : (b, ob) ∈ HL.flatten := mem_group (by rw [← idx_eq]; exact hj) (List.mem_cons_self ..)
end rules
/-- the head of a slice that is owned is owned -/
theorem SliceO.pre {α : Type} {k : Fl α} {E : TypeId} {xs : List α} {a : Option Addr} {cap : Nat} {H : Hp} {hi : Int} (so : SliceO k E xs a cap H) (h : 0 ≤ (0 : Int) ∧ 0 ≤ hi ∧ hi ≤ (xs.length : Int)) :
    SliceO k E (sub' xs 0 hi) (subA a cap (Int.toNat 0) k.size) (cap - Int.toNat 0) H := by
  have hs : subA a cap (Int.toNat 0) k.size = a := by
    unfold subA
    split
    · rfl
    · cases a with
      | none => rfl
      | some ad => simp [Addr.add]
  have hx : sub' xs 0 hi = xs.take hi.toNat := by simp [sub']
  rw [hs, hx, show cap - Int.toNat 0 = cap by simp]
  rcases so with ⟨h1, h2, h3, h4⟩ | ⟨b, pre, post, h1, h2, h3, h4⟩
  · exact .inl ⟨h1, by rw [h2]; simp, h3, h4⟩
  · refine .inr ⟨b, pre, row k (xs.drop hi.toNat) ++ post, h1, ?_, by simp; omega, ?_⟩
    · rw [h2]
      have : row k xs = row k (xs.take hi.toNat) ++ row k (xs.drop hi.toNat) := by rw [← row_append, List.take_append_drop]
      rw [this]; simp
    · simp only [List.length_append, row_length, h4, List.length_drop, List.length_take]
      rw [← Nat.add_mul]; congr 1; omega
end

section
variable {W : World}
variable {P : Program}
section
variable {α : Type} {k : Fl α} {n : Nat} {env : Env} {H : Hp} {o : Oper}
/-! ### slices that are nil just if there is nothing in them -/
theorem SliceO.isnil {E : TypeId} {xs : List α} {a : Option Addr} {cap : Nat} {Hj : Hp} (so : SliceO k E xs a cap Hj) (hc : xs = [] → a = none) : Option.isNone a = List.isEmpty xs := by
  cases a with
  | none =>
    rcases so with ⟨_, h, _, _⟩ | ⟨b, pre, post, h, _⟩
    · subst h; rfl
    · cases h
  | some ad =>
    cases xs with
    | nil => cases hc rfl
    | cons x r => rfl
theorem g_isnil (T : Ty P) {t yt e : TypeId} {x y : Operand} {a : Option Addr} {m cap n' c' : Nat} {E : TypeId} {xs : List α} {Hj : Hp} (hop : o.op = .binOp .eql t x y yt) (hx : ev env x = some (.slice a m cap)) (hy : ev env y = some (.slice none n' c'))
    (hu : T.und t = some (.slice e)) (so : SliceO k E xs a cap Hj) (hc : xs = [] → a = none) : Gives W P n env H o (.bool (List.isEmpty xs)) := by
  intro t1 w s ow
  unfold execOp
  simp only [hop, ev_eval s hx, ev_eval s hy]
  have h : binVal T .eql t (.slice a m cap) (.slice none n' c') = some (.bool a.isNone) := by simp [binVal, hu]
  rw [Sem.run_bind, binVal_run h w, so.isnil hc]; rfl
theorem g_isnoll (T : Ty P) {t yt e : TypeId} {x y : Operand} {a : Option Addr} {m cap n' c' : Nat} {E : TypeId} {xs : List α} {Hj : Hp} (hop : o.op = .binOp .neq t x y yt) (hx : ev env x = some (.slice a m cap)) (hy : ev env y = some (.slice none n' c'))
    (hu : T.und t = some (.slice e)) (so : SliceO k E xs a cap Hj) (hc : xs = [] → a = none) : Gives W P n env H o (.bool (!List.isEmpty xs)) := by
  intro t1 w s ow
  unfold execOp
  simp only [hop, ev_eval s hx, ev_eval s hy]
  have h : binVal T .neq t (.slice a m cap) (.slice none n' c') = some (.bool (!a.isNone)) := by simp [binVal, hu]
  rw [Sem.run_bind, binVal_run h w, so.isnil hc]; rfl
theorem no_nil {xs : List α} {a : Option Addr} (h : 0 < List.length xs) : xs = [] → a = none := fun e => by subst e; simp at h
theorem no_nil_app {xs ys : List α} {a : Option Addr} (h : List.isEmpty xs = false ∨ List.isEmpty ys = false) : xs ++ ys = [] → a = none := fun e => by
  rw [List.append_eq_nil_iff] at e
  rw [e.1, e.2] at h; simp at h
end
end

section
variable {W : World}
variable {P : Program}

/-! ### an array of slices, each of them owned -/
section
variable {α : Type} [Inhabited α] (k : Fl α) (E : TypeId)
def Lsr : List (List α) → List Value → Hp → Prop
  | [], vs, R => vs = [] ∧ R = []
  | x :: xs, vs, R => ∃ a c Hx vs' R', SliceO k E x a c Hx ∧ vs = .slice a x.length c :: vs' ∧ R = Hx ++ R' ∧ Lsr xs vs' R'
def LsO (n : Nat) (t : TypeId) (xs : List (List α)) (b : Nat) (H : Hp) : Prop :=
  xs.length = n ∧ ∃ vs R, Lsr k E xs vs R ∧ H = (b, Obj.cells vs.toArray t (0, 0)) :: R
/-- the same, but that what stood at one place is elsewhere -/
def LsH (n : Nat) (t : TypeId) (xs : List (List α)) (i : Int) (b : Nat) (v : Value) (H : Hp) : Prop :=
  xs.length = n ∧ 0 ≤ i ∧ i < (n : Int) ∧ ∃ pre post R, pre.length = i.toNat ∧ H = (b, Obj.cells (pre ++ v :: post).toArray t (0, 0)) :: R ∧
    ∀ ys a c Hy, SliceO k E ys a c Hy → ∃ R2, R2.Perm (R ++ Hy) ∧ Lsr k E (List.set xs i.toNat ys) (pre ++ .slice a ys.length c :: post) R2
variable {k E}
theorem lsr_take : ∀ (xs : List (List α)) (vs : List Value) (R : Hp) (i : Nat), Lsr k E xs vs R → i < xs.length →
    ∃ a c Hx pre post R', pre.length = i ∧ vs = pre ++ .slice a (List.length (rd xs (i : Int))) c :: post ∧ SliceO k E (rd xs (i : Int)) a c Hx ∧ R.Perm (R' ++ Hx) ∧
      ∀ ys a2 c2 Hy, SliceO k E ys a2 c2 Hy → ∃ R2, R2.Perm (R' ++ Hy) ∧ Lsr k E (List.set xs i ys) (pre ++ .slice a2 ys.length c2 :: post) R2
  | [], _, _, _, _, h => by simp at h
  | x :: xs, vs, R, 0, h, _ => by
    obtain ⟨a, c, Hx, vs', R', h1, rfl, rfl, h4⟩ := h
    refine ⟨a, c, Hx, [], vs', R', rfl, rfl, h1, List.perm_append_comm, fun ys a2 c2 Hy hy => ⟨Hy ++ R', List.perm_append_comm, ⟨a2, c2, Hy, vs', R', hy, rfl, rfl, h4⟩⟩⟩
  | x :: xs, vs, R, i + 1, h, hi => by
    obtain ⟨a, c, Hx, vs', R', h1, rfl, rfl, h4⟩ := h
    obtain ⟨a1, c1, H1, pre, post, R1, e1, rfl, e3, e4, e5⟩ := lsr_take xs vs' R' i h4 (by simpa using hi)
    have hr : rd (x :: xs) ((i + 1 : Nat) : Int) = rd xs (i : Int) := by
      unfold rd
      have h1 : ((i + 1 : Nat) : Int).toNat = i + 1 := by omega
      have h2 : ((i : Nat) : Int).toNat = i := by omega
      rw [h1, h2]; rfl
    refine ⟨a1, c1, H1, .slice a x.length c :: pre, post, Hx ++ R1, by simp [e1], ?_, by rw [hr]; exact e3, ?_, fun ys a2 c2 Hy hy => ?_⟩
    · rw [hr]; rfl
    · rw [List.append_assoc]; exact List.Perm.append_left Hx e4
    · obtain ⟨R2, p2, l2⟩ := e5 ys a2 c2 Hy hy
      exact ⟨Hx ++ R2, by rw [List.append_assoc]; exact List.Perm.append_left Hx p2, ⟨a, c, Hx, _, R2, h1, rfl, rfl, l2⟩⟩
theorem lsr_nil : ∀ n : Nat, Lsr k E (List.replicate n ([] : List α)) (List.replicate n (.slice none 0 0)) []
  | 0 => ⟨rfl, rfl⟩
  | n + 1 => ⟨none, 0, [], _, [], SliceO.nil, rfl, rfl, lsr_nil n⟩
theorem lsr_len : ∀ (xs : List (List α)) (vs : List Value) (R : Hp), Lsr k E xs vs R → vs.length = xs.length
  | [], _, _, h => by rw [h.1]; rfl
  | x :: xs, _, _, h => by
    obtain ⟨a, c, Hx, vs', R', _, rfl, _, h4⟩ := h
    simp [lsr_len xs vs' R' h4]

variable {n' : Nat} {F : Act → World → Prop} {env : Env} {HL : List Hp} {t : TypeId} {xs : List (List α)} {b m : Nat}
theorem at_lsnew {cs : List Value} {j : Nat} (k : Fl α) (E : TypeId) (m : Nat) (hj : idx j HL = some [(b, Obj.cells cs.toArray t (0, 0))]) (hc : cs = List.replicate m (.slice none 0 0))
    (h : ∀ H, LsO k E m t (List.replicate m ([] : List α)) b H → AtL W n' F env (HL.set j H)) : AtL W n' F env HL := by
  refine at_heap (fun w o => ?_) (h [(b, Obj.cells cs.toArray t (0, 0))] ⟨by simp, cs, [], by rw [hc]; exact lsr_nil m, rfl⟩)
  rw [idx_eq] at hj
  exact own_set hj (by simpa using own_get hj o)
/-- what stands at a place is taken out -/
theorem at_lsopen {H : Hp} {i : Int} {j : Nat} (hj : idx j HL = some H) (so : LsO k E m t xs b H) (hi : 0 ≤ i ∧ i < (m : Int))
    (h : ∀ a c Hx H', SliceO k E (rd xs i) a c Hx → LsH k E m t xs i b (.slice a (List.length (rd xs i)) c) H' → AtL W n' F env (HL.set j H' ++ [Hx])) : AtL W n' F env HL := by
  obtain ⟨hl, vs, R, hr, rfl⟩ := so
  obtain ⟨a, c, Hx, pre, post, R', e1, rfl, e3, e4, e5⟩ := lsr_take xs vs R i.toNat hr (by omega)
  have ei : ((i.toNat : Nat) : Int) = i := by omega
  rw [ei] at e3
  refine at_heap (fun w o => ?_) (h a c Hx ((b, Obj.cells (pre ++ .slice a (List.length (rd xs i)) c :: post).toArray t (0, 0)) :: R') e3 ⟨hl, hi.1, hi.2, pre, post, R', e1, rfl, e5⟩)
  rw [ei] at hj
  rw [idx_eq] at hj
  have h1 := own_get hj o
  rw [List.flatten_append]
  have h2 : Own W w (((b, Obj.cells (pre ++ .slice a (List.length (rd xs i)) c :: post).toArray t (0, 0)) :: R') ++ (HL.eraseIdx j).flatten ++ Hx) := by
    refine h1.perm ?_
    simp only [List.cons_append]
    refine List.Perm.cons _ ?_
    refine (List.Perm.append_right _ e4).trans ?_
    rw [List.append_assoc, List.append_assoc]
    exact List.Perm.append_left _ List.perm_append_comm
  refine h2.perm ?_
  simp only [List.flatten_cons, List.flatten_nil, List.append_nil]
  exact List.Perm.append_right _ (flatten_set HL j _ _ hj).symm
theorem in_ls {H : Hp} {i : Int} {j : Nat} {v : Value} (hj : idx j HL = some H) (so : LsH k E m t xs i b v H) : ∃ arr E fr, (b, Obj.cells arr E fr) ∈ HL.flatten ∧ arr[i.toNat]? = some v := by
  obtain ⟨_, _, _, pre, post, R, e1, rfl, _⟩ := so
  exact ⟨_, _, _, mem_group (by rw [← idx_eq]; exact hj) (List.mem_cons_self ..), by simp [← e1]⟩
end
section
variable {n : Nat} {env : Env} {H : Hp} {o : Oper}
/-- a place in an array behind a pointer -/
theorem g_arrat (T : Ty P) {m by' b : Nat} {t E : TypeId} {x ix : Operand} {kk : IntKind} {j : Int} {z : Value} (hop : o.op = .indexAddr t x ix)
    (hx : ev env x = some (.pointer (some ⟨b, 0, none⟩))) (hix : ev env ix = some (.int kk j)) (hu : T.und t = some (.array m E)) (hi : T.inf E = some (1, by', z))
    (hj : 0 ≤ j ∧ j < (m : Int)) : Gives W P n env H o (.pointer (some ⟨b, j.toNat, none⟩)) := by
  intro t' w s ow
  obtain ⟨h0, h1⟩ := hj
  unfold execOp
  simp only [hop, ev_eval s hx, ev_eval s hix, Instr.indexAt, Instr.sureAddr, asIntOf, Sem.run_bind, Sem.run_pure, Result.andThen_ok, run_und hu, Sem.run_ite, h0, h1, and_self, if_true, run_size hi]
  congr 3
  unfold Addr.add
  split
  · rename_i h
    have : j.toNat = 0 := by omega
    simp [this]
  · simp
end
section
variable {α : Type} [Inhabited α] {k : Fl α} {n : Nat} {Q : Exit → Act → World → Prop} {env : Env} {HL : List Hp} {ops : Array Oper} {i : Nat} {K : Act → World → Prop} {o : Oper}
/-- a slice of one's own is laid where one was taken out -/
theorem at_lsst (T : Ty P) {E t ty : TypeId} {x y : Operand} {xs : List (List α)} {ys : List α} {a : Option Addr} {b c m by' q : Nat} {v0 z : Value} {jx : Int} {H Hq : Hp} (j : Nat)
    (hs : slot0 ops env i = some o) (hop : o.op = .store ty x y) (hx : ev env x = some (.pointer (some ⟨b, jx.toNat, none⟩)))
    (hy : ev env y = some (.slice a ys.length c)) (hi : T.inf ty = some (1, by', z)) (hj : idx j HL = some H) (so : LsH k E m t xs jx b v0 H)
    (hne : j ≠ q) (hq : idx q HL = some Hq) (sq : SliceO k E ys a c Hq)
    (h : ∀ H', LsO k E m t (List.set xs jx.toNat ys) b H' → AtL W n K env ((HL.set j H').set q [])) : AtL W n (wpOp P ops Q i K) env HL := by
  obtain ⟨ho, hw, hd⟩ := slot0_spec hs
  obtain ⟨hl, j0, j1, pre, post, R, e1, rfl, e5⟩ := so
  obtain ⟨R2, p2, l2⟩ := e5 ys a c Hq sq
  rw [idx_eq] at hj hq
  have hlen : pre.length + 1 + post.length = m := by
    have := lsr_len _ _ _ l2
    simp at this; omega
  refine at_store T (cs := pre ++ .slice a ys.length c :: post) ho hw hd hop hx hy hi hj rfl (fun c hc => ?_) (by simp; omega) ?_ ?_
  · simp [cellsL] at hc; subst hc; rfl
  · unfold splice
    simp only [cellsL]
    rw [← e1, List.take_left', List.append_cancel_left_eq]
    · simp
    · rfl
  · refine at_heap (fun w o => ?_) (h ((b, Obj.cells (pre ++ .slice a ys.length c :: post).toArray t (0, 0)) :: R2) ⟨by simp [hl], _, R2, l2, rfl⟩)
    have hjl := (List.getElem?_eq_some_iff.1 hj).1
    have h1 := own_get (HL := HL.set j ((b, Obj.cells (pre ++ .slice a ys.length c :: post).toArray t (0, 0)) :: R)) (List.getElem?_set_self hjl) o
    · have hq2 : (HL.set j ((b, Obj.cells (pre ++ .slice a ys.length c :: post).toArray t (0, 0)) :: R))[q]? = some Hq := by
        rw [List.getElem?_set_ne hne]; exact hq
      have hq3 : (HL.set j ((b, Obj.cells (pre ++ .slice a ys.length c :: post).toArray t (0, 0)) :: R2))[q]? = some Hq := by
        rw [List.getElem?_set_ne hne]; exact hq
      refine own_set hq3 ?_
      have h2 := own_get hq2 o
      -- the two heaps
      have hp1 := flatten_erase (HL.set j ((b, Obj.cells (pre ++ .slice a ys.length c :: post).toArray t (0, 0)) :: R)) q Hq hq2
      have hp2 := flatten_set (HL.set j ((b, Obj.cells (pre ++ .slice a ys.length c :: post).toArray t (0, 0)) :: R2)) q Hq [] hq3
      refine o.perm ?_
      -- R ++ Hq as R2
      have ha : (HL.set j ((b, Obj.cells (pre ++ .slice a ys.length c :: post).toArray t (0, 0)) :: R)).flatten.Perm (((b, Obj.cells (pre ++ .slice a ys.length c :: post).toArray t (0, 0)) :: R) ++ (HL.eraseIdx j).flatten) := flatten_set HL j _ _ hj
      have hb : ((HL.set j ((b, Obj.cells (pre ++ .slice a ys.length c :: post).toArray t (0, 0)) :: R2))).flatten.Perm (((b, Obj.cells (pre ++ .slice a ys.length c :: post).toArray t (0, 0)) :: R2) ++ (HL.eraseIdx j).flatten) := flatten_set HL j _ _ hj
      have hc := flatten_erase (HL.set j ((b, Obj.cells (pre ++ .slice a ys.length c :: post).toArray t (0, 0)) :: R2)) q Hq hq3
      -- (b :: R) ++ rest ~ target, where Hq ++ target ~ (b :: R2) ++ rest, R2 ~ R ++ Hq
      have key : (Hq ++ (HL.set j ((b, Obj.cells (pre ++ .slice a ys.length c :: post).toArray t (0, 0)) :: R)).flatten).Perm (Hq ++ ([] ++ ((HL.set j ((b, Obj.cells (pre ++ .slice a ys.length c :: post).toArray t (0, 0)) :: R2)).eraseIdx q).flatten)) := by
        rw [List.nil_append]
        refine List.Perm.trans ?_ hc
        refine List.Perm.trans ?_ hb.symm
        refine (List.Perm.append_left Hq ha).trans ?_
        rw [← List.append_assoc]
        refine List.Perm.append_right _ ?_
        refine List.perm_append_comm.trans ?_
        simp only [List.cons_append]
        exact List.Perm.cons _ p2.symm
      exact (List.perm_append_left_iff Hq).1 key
end
section
variable {n : Nat} {Q : Exit → Act → World → Prop} {env : Env} {H : Hp}
/-- ways that meet where a round ends -/
theorem at_any_mid {x : Code} {σ : Type} (I : σ → Prop) (E : σ → Env) (G : σ → List Hp) (h1 : At W n (x.wp P (Exit.then (Mid W n I E G) Q)) env H)
    (h2 : ∀ s, I s → AtL W n (Q .normal) (E s) (G s)) : At W n (x.wp P Q) env H := by
  refine h1.mono fun a w h => wp_mono h fun e a w h => ?_
  cases e with
  | normal =>
    obtain ⟨s, hi, t, rfl, sl, o⟩ := h
    exact h2 s hi t w sl o
  | _ => exact h
end
theorem sub_cap {α : Type} {xs : List α} {lo hi : Int} {cap : Nat} (h : 0 ≤ lo ∧ lo ≤ hi ∧ hi ≤ (xs.length : Int)) (hc : xs.length ≤ cap) : (sub' xs lo hi).length ≤ cap - lo.toNat := by
  have := sub_length h; omega
end

section
variable {W : World}
variable {P : Program}

/-! ### maps whose values are slices, each of them owned -/
/-- what a slice is told by -/
abbrev Hd := Option Addr × Nat × Nat
def hdv (h : Hd) : Value := .slice h.1 h.2.1 h.2.2
section
variable {κ α : Type} [DecidableEq κ] {t : TypeId}
def Lmr (k : Fl α) (E : TypeId) : List (κ × List α) → List (κ × Hd) → Hp → Prop
  | [], hs, R => hs = [] ∧ R = []
  | e :: r, hs, R => ∃ a c Hx hs' R', SliceO k E e.2 a c Hx ∧ hs = (e.1, (a, e.2.length, c)) :: hs' ∧ R = Hx ++ R' ∧ Lmr k E r hs' R'
variable {k : Fl α} {E : TypeId}
theorem lmr_take : ∀ (xs : List (κ × List α)) (hs : List (κ × Hd)) (R : Hp) (x : κ), Lmr k E xs hs R →
    ∃ a c Hx R', SliceO k E (mval xs x) a c Hx ∧ mval hs x = (a, (mval xs x).length, c) ∧ R.Perm (R' ++ Hx) ∧
      ∀ ys a2 c2 Hy, SliceO k E ys a2 c2 Hy → ∃ R2, R2.Perm (R' ++ Hy) ∧ Lmr k E (mset xs x ys) (mset hs x (a2, ys.length, c2)) R2
  | [], _, _, x, h => by
    obtain ⟨rfl, rfl⟩ := h
    exact ⟨none, 0, [], [], SliceO.nil, rfl, by simp, fun ys a2 c2 Hy hy => ⟨Hy, by simp, a2, c2, Hy, [], [], hy, rfl, by simp, rfl, rfl⟩⟩
  | e :: r, hs, R, x, h => by
    obtain ⟨a, c, Hx, hs', R', h1, rfl, rfl, h4⟩ := h
    by_cases hk : e.1 = x
    · have e1 : mval (e :: r) x = e.2 := by simp [mval, mget, hk]
      have e2 : mval ((e.1, (a, e.2.length, c)) :: hs') x = (a, e.2.length, c) := by simp [mval, mget, hk]
      refine ⟨a, c, Hx, R', by rw [e1]; exact h1, by rw [e1, e2], List.perm_append_comm, fun ys a2 c2 Hy hy => ⟨Hy ++ R', List.perm_append_comm, ?_⟩⟩
      simp only [mset, hk, if_true]
      exact ⟨a2, c2, Hy, hs', R', hy, rfl, rfl, h4⟩
    · obtain ⟨a1, c1, H1, R1, q1, q2, q3, q4⟩ := lmr_take r hs' R' x h4
      have e1 : mval (e :: r) x = mval r x := by simp [mval, mget, hk]
      have e2 : mval ((e.1, (a, e.2.length, c)) :: hs') x = mval hs' x := by simp [mval, mget, hk]
      refine ⟨a1, c1, H1, Hx ++ R1, by rw [e1]; exact q1, by rw [e1, e2]; exact q2, by rw [List.append_assoc]; exact List.Perm.append_left Hx q3, fun ys a2 c2 Hy hy => ?_⟩
      obtain ⟨R2, p2, l2⟩ := q4 ys a2 c2 Hy hy
      refine ⟨Hx ++ R2, by rw [List.append_assoc]; exact List.Perm.append_left Hx p2, ?_⟩
      simp only [mset, hk, if_false]
      exact ⟨a, c, Hx, _, R2, h1, rfl, rfl, l2⟩
theorem lmr_len : ∀ (xs : List (κ × List α)) (hs : List (κ × Hd)) (R : Hp), Lmr k E xs hs R → hs.length = xs.length
  | [], _, _, h => by rw [h.1]; rfl
  | e :: r, _, _, h => by
    obtain ⟨a, c, Hx, hs', R', _, rfl, _, h4⟩ := h
    simp [lmr_len r hs' R' h4]
/-- what stands at a place -/
theorem lmr_at : ∀ (xs : List (κ × List α)) (hs : List (κ × Hd)) (R : Hp) (i : Nat) (h : κ × Hd), Lmr k E xs hs R → hs[i]? = some h →
    ∃ l c, xs[i]? = some (h.1, l) ∧ h.2 = (h.2.1, l.length, c) ∧ SliceR k l h.2.1 R ∧ l.length ≤ c
  | [], _, _, _, _, h, hi => by rw [h.1] at hi; simp at hi
  | e :: r, _, _, 0, g, h, hi => by
    obtain ⟨a, c, Hx, hs', R', h1, rfl, rfl, h4⟩ := h
    simp at hi; subst hi
    exact ⟨e.2, c, rfl, rfl, h1.r.mono (fun x hx => List.mem_append_left _ hx), h1.cap_le⟩
  | e :: r, _, _, i + 1, g, h, hi => by
    obtain ⟨a, c, Hx, hs', R', h1, rfl, rfl, h4⟩ := h
    obtain ⟨l, c2, q1, q2, q3, q4⟩ := lmr_at r hs' R' i g h4 (by simpa using hi)
    exact ⟨l, c2, by simpa using q1, q2, q3.mono (fun x hx => List.mem_append_right _ hx), q4⟩

variable (KK : Ky P t κ) (k E)
def MsO (xs : List (κ × List α)) (r : Nat) (H : Hp) : Prop :=
  ∃ hs H0 R, MapO KK hdv hs r H0 ∧ Lmr k E xs hs R ∧ H = H0 ++ R
/-- the same, but that what stood at one key is elsewhere -/
def MsH (xs : List (κ × List α)) (x : κ) (r : Nat) (v : Hd) (H : Hp) : Prop :=
  ∃ hs H0 R, MapO KK hdv hs r H0 ∧ mval hs x = v ∧ H = H0 ++ R ∧
    ∀ ys a2 c2 Hy, SliceO k E ys a2 c2 Hy → ∃ R2, R2.Perm (R ++ Hy) ∧ Lmr k E (mset xs x ys) (mset hs x (a2, ys.length, c2)) R2
variable {KK k E}
variable {n' : Nat} {F : Act → World → Prop} {env : Env} {HL : List Hp} {xs : List (κ × List α)} {r : Nat}
theorem mso_nil {H : Hp} (h : MapO KK hdv ([] : List (κ × Hd)) r H) : MsO k E KK ([] : List (κ × List α)) r H := ⟨[], H, [], h, ⟨rfl, rfl⟩, by simp⟩
/-- what stands at a key is taken out -/
theorem at_msopen {H : Hp} {j : Nat} (x : κ) (hj : idx j HL = some H) (so : MsO k E KK xs r H)
    (h : ∀ a c Hx H', SliceO k E (mval xs x) a c Hx → MsH k E KK xs x r (a, (mval xs x).length, c) H' → AtL W n' F env (HL.set j H' ++ [Hx])) : AtL W n' F env HL := by
  obtain ⟨hs, H0, R, h0, hl, rfl⟩ := so
  obtain ⟨a, c, Hx, R', q1, q2, q3, q4⟩ := lmr_take xs hs R x hl
  refine at_heap (fun w o => ?_) (h a c Hx (H0 ++ R') q1 ⟨hs, H0, R', h0, q2, rfl, q4⟩)
  rw [idx_eq] at hj
  have h1 := own_get hj o
  rw [List.flatten_append]
  have h2 : Own W w ((H0 ++ R') ++ (HL.eraseIdx j).flatten ++ Hx) := by
    refine h1.perm ?_
    rw [List.append_assoc, List.append_assoc, List.append_assoc]
    refine List.Perm.append_left _ ?_
    refine (List.Perm.append_right _ q3).trans ?_
    rw [List.append_assoc]
    exact List.Perm.append_left _ List.perm_append_comm
  refine h2.perm ?_
  simp only [List.flatten_cons, List.flatten_nil, List.append_nil]
  exact List.Perm.append_right _ (flatten_set HL j _ _ hj).symm
theorem in_msh {H : Hp} {j : Nat} {x : κ} {v : Hd} (hj : idx j HL = some H) (so : MsH k E KK xs x r v H) : ∃ hs, MapR KK hdv hs r HL.flatten ∧ mval hs x = v := by
  obtain ⟨hs, H0, R, h0, h1, rfl, _⟩ := so
  exact ⟨hs, h0.r.mono (fun y hy => mem_group (by rw [← idx_eq]; exact hj) (List.mem_append_left _ hy)), h1⟩
end
section rules
variable {κ α : Type} [DecidableEq κ] {t : TypeId} {k : Fl α} {E : TypeId}
variable {T : Ty P} {n : Nat} {Q : Exit → Act → World → Prop} {env : Env} {H : Hp} {HL : List Hp} {ops : Array Oper} {i : Nat} {K : Act → World → Prop} {o : Oper}
/-- a lookup of what was taken out -/
theorem g_lookms (T : Ty P) {mt et : TypeId} (KK : Ky P t κ) {x ix : Operand} {r : Nat} {kx : κ} {v : Hd} {sz by' : Nat}
    (hop : o.op = .lookup mt x ix false) (hx : ev env x = some (.map (some r))) (hk : ev env ix = some (KK.enc kx)) (hu : T.und mt = some (.map t et))
    (hi : T.inf et = some (sz, by', .slice none 0 0)) (hm : ∃ hs, MapR KK hdv hs r H ∧ mval hs kx = v) :
    Gives W P n env H o (.slice v.1 v.2.1 v.2.2) := by
  obtain ⟨hs, h1, h2⟩ := hm
  have := g_look (W := W) (n := n) (o := o) T KK hdv (k := kx) (b := false) (sz := sz) (by' := by') hop hx hk hu hi h1
  rw [h2] at this
  exact this
/-- a slice of one's own is laid at a key where one was taken out -/
theorem at_msput (T : Ty P) {mt et : TypeId} (KK : Ky P t κ) {x ix y : Operand} {xs : List (κ × List α)} {r q : Nat} {kx : κ} {v : Hd} {ys : List α} {a : Option Addr} {c : Nat} {Hj Hq : Hp} (j : Nat)
    (hs : slot0 ops env i = some o) (hop : o.op = .mapUpdate mt x ix y) (hx : ev env x = some (.map (some r))) (hk : ev env ix = some (KK.enc kx)) (hy : ev env y = some (.slice a ys.length c))
    (hu : T.und mt = some (.map t et)) (hj : idx j HL = some Hj) (so : MsH k E KK xs kx r v Hj) (hne : j ≠ q) (hq : idx q HL = some Hq) (sq : SliceO k E ys a c Hq)
    (h : ∀ H', MsO k E KK (mset xs kx ys) r H' → AtL W n K env ((HL.set j H').set q [])) : AtL W n (wpOp P ops Q i K) env HL := by
  obtain ⟨hs', H0, R, h0, _, rfl, h4⟩ := so
  obtain ⟨R2, p2, l2⟩ := h4 ys a c Hq sq
  have hj' := hj
  rw [idx_eq] at hj hq
  -- the map's own block stands apart
  have hsplit : ∀ w, Own W w HL.flatten → Own W w ((HL.set j R) ++ [H0]).flatten := fun w ow => by
    have h1 := own_get hj ow
    rw [List.flatten_append]
    have h2 : Own W w ((R ++ (HL.eraseIdx j).flatten) ++ H0) := h1.perm (by
      rw [List.append_assoc]; exact List.perm_append_comm)
    refine h2.perm ?_
    simp only [List.flatten_cons, List.flatten_nil, List.append_nil]
    exact List.Perm.append_right _ (flatten_set HL j _ _ hj).symm
  have hjl := (List.getElem?_eq_some_iff.1 hj).1
  refine at_heap hsplit ?_
  have hg : idx HL.length (HL.set j R ++ [H0]) = some H0 := by rw [idx_eq]; simp
  refine at_mu T KK hdv (v := ((a, ys.length, c) : Hd)) (k := kx) (g := HL.length) hs hop hx hk hy hu hg h0 (fun H' so' => ?_)
  refine at_heap (fun w o => ?_) (h (H' ++ R2) ⟨_, H', R2, so', l2, rfl⟩)
  have e1 : (HL.set j R ++ [H0]).set HL.length H' = HL.set j R ++ [H'] := by
    rw [List.set_append_right _ _ (by simp)]; simp
  rw [e1, List.flatten_append] at o
  have ha : (HL.set j R).flatten.Perm (R ++ (HL.eraseIdx j).flatten) := flatten_set HL j _ _ hj
  have hb : (HL.set j (H' ++ R2)).flatten.Perm ((H' ++ R2) ++ (HL.eraseIdx j).flatten) := flatten_set HL j _ _ hj
  have hq3 : (HL.set j (H' ++ R2))[q]? = some Hq := by rw [List.getElem?_set_ne hne]; exact hq
  have hc := flatten_erase (HL.set j (H' ++ R2)) q Hq hq3
  refine own_set hq3 ?_
  refine o.perm ?_
  simp only [List.flatten_cons, List.flatten_nil, List.append_nil]
  have key : (Hq ++ ((HL.set j R).flatten ++ H')).Perm (Hq ++ ([] ++ ((HL.set j (H' ++ R2)).eraseIdx q).flatten)) := by
    rw [List.nil_append]
    refine List.Perm.trans ?_ hc
    refine List.Perm.trans ?_ hb.symm
    refine (List.Perm.append_left Hq (List.Perm.append_right H' ha)).trans ?_
    -- Hq ++ ((R ++ rest) ++ H')  ~  (H' ++ R2) ++ rest
    have s1 : (Hq ++ ((R ++ (HL.eraseIdx j).flatten) ++ H')).Perm (H' ++ ((R ++ Hq) ++ (HL.eraseIdx j).flatten)) := by
      rw [← List.append_assoc Hq]
      refine List.perm_append_comm.trans ?_
      refine List.Perm.append_left H' ?_
      rw [← List.append_assoc]
      exact List.Perm.append_right _ List.perm_append_comm
    refine s1.trans ?_
    rw [List.append_assoc H']
    exact List.Perm.append_left H' (List.Perm.append_right _ p2.symm)
  exact (List.perm_append_left_iff Hq).1 key
end rules
end

section
variable {W : World}
variable {P : Program}
open Go.ChangeMaps (setBlock)

/-! ### range over such a map: whichever entry comes next -/
section
variable {ε : Type}
/-- one of the list, and what is left of it -/
def Pickd (l : List ε) (e : ε) (l' : List ε) : Prop := ∃ j : Nat, l[j]? = some e ∧ l' = l.eraseIdx j
/-- what comes of it whichever is picked: if it is one thing -/
noncomputable def allPick {ρ : Type} (l : List ε) (g : ε → List ε → Option ρ) : Option ρ :=
  open Classical in if h : ∃ r, ∀ e l', Pickd l e l' → g e l' = some r then some (Classical.choose h) else none
noncomputable def rangeP {ρ : Type} (l : List ε) (z : Option ρ) (g : ε → List ε → Option ρ) : Option ρ := if l.isEmpty = true then z else allPick l g
theorem allPick_h {ρ : Type} {l l' : List ε} {e : ε} {g : ε → List ε → Option ρ} {r : ρ} (h : Pickd l e l') (H : allPick l g = some r) : g e l' = some r := by
  unfold allPick at H
  by_cases hh : ∃ r, ∀ e l', Pickd l e l' → g e l' = some r
  · rw [dif_pos hh] at H
    have := Classical.choose_spec hh e l' h
    rw [this, Option.some.inj H]
  · rw [dif_neg hh] at H; cases H
theorem allPick_i {ρ : Type} {l l0 : List ε} {e0 : ε} {g : ε → List ε → Option ρ} {r : ρ} (h0 : Pickd l e0 l0) (h : ∀ e l', Pickd l e l' → g e l' = some r) : allPick l g = some r := by
  unfold allPick
  have hh : ∃ r, ∀ e l', Pickd l e l' → g e l' = some r := ⟨r, h⟩
  rw [dif_pos hh]
  have h1 := Classical.choose_spec hh e0 l0 h0
  rw [h e0 l0 h0] at h1; exact h1.symm
theorem rangeP_nil {ρ : Type} {l : List ε} {z : Option ρ} {g : ε → List ε → Option ρ} {r : ρ} (h : l = []) (H : rangeP l z g = some r) : z = some r := by
  subst h; exact H
theorem rangeP_pick {ρ : Type} {l l' : List ε} {e : ε} {z : Option ρ} {g : ε → List ε → Option ρ} {r : ρ} (h : Pickd l e l') (H : rangeP l z g = some r) : g e l' = some r := by
  cases l with
  | nil => obtain ⟨j, hj, _⟩ := h; simp at hj
  | cons a t => exact allPick_h h H
theorem rangeP_all {ρ : Type} {l : List ε} {z : Option ρ} {g : ε → List ε → Option ρ} {r : ρ} (h0 : l = [] → z = some r) (h : ∀ e l', Pickd l e l' → g e l' = some r) : rangeP l z g = some r := by
  cases l with
  | nil => exact h0 rfl
  | cons a t => exact allPick_i ⟨0, rfl, rfl⟩ h
theorem pick_filter (p : Nat → Bool) (b0 : Nat) : ∀ (l : List (ε × Nat)) (i : Nat) (e : ε), (l.map (·.2)).Nodup → l[i]? = some (e, b0) → p b0 = true →
    Pickd ((l.filter (fun x => p x.2)).map (·.1)) e ((l.filter (fun x => p x.2 && !(x.2 == b0))).map (·.1))
  | [], i, e, _, h, _ => by simp at h
  | x :: r, 0, e, hn, h, hp => by
    simp at h; subst h
    rw [List.map_cons, List.nodup_cons] at hn
    refine ⟨0, by simp [hp], ?_⟩
    have : r.filter (fun x => p x.2 && !(x.2 == b0)) = r.filter (fun x => p x.2) := by
      apply List.filter_congr
      intro y hy
      have : y.2 ≠ b0 := fun q => hn.1 (List.mem_map.2 ⟨y, hy, q⟩)
      simp [this]
    simp [hp, this]
  | x :: r, i + 1, e, hn, h, hp => by
    rw [List.map_cons, List.nodup_cons] at hn
    have hr : r[i]? = some (e, b0) := by simpa using h
    obtain ⟨j, h1, h2⟩ := pick_filter p b0 r i e hn.2 hr hp
    have hx : x.2 ≠ b0 := fun q => hn.1 (List.mem_map.2 ⟨(e, b0), List.mem_of_getElem? hr, q.symm⟩)
    by_cases hpx : p x.2 = true
    · refine ⟨j + 1, ?_, ?_⟩
      · simpa [hpx] using h1
      · simp only [List.filter_cons, hpx, Bool.true_and]
        have : (!(x.2 == b0)) = true := by simp [hx]
        rw [if_pos this, if_pos True.intro, List.map_cons, List.map_cons, List.eraseIdx_cons_succ, h2]
    · refine ⟨j, ?_, ?_⟩
      · simpa [hpx] using h1
      · simpa [hpx] using h2
end
section
variable {κ α : Type} [DecidableEq κ] {t : TypeId}
def leftL (xs : List (κ × List α)) (bs : List Nat) (seen : Array Nat) : List (κ × List α) := ((xs.zip bs).filter (fun p => !seen.contains p.2)).map (·.1)
variable (k : Fl α) (E : TypeId) (KK : Ky P t κ)
/-- a map that is gone through: who is left, who came last and where its slice is -/
def RgO (left : List (κ × List α)) (cur : Option ((κ × List α) × Option Addr × Nat)) (r b : Nat) (H : Hp) : Prop :=
  ∃ (xs : List (κ × List α)) (hs : List (κ × Hd)) (bs : List Nat) (c : Nat) (R : Hp) (since : Nat) (seen : Array Nat) (c0 : Nat),
    bs.length = hs.length ∧ bs.Nodup ∧ (∀ x ∈ bs, x < since) ∧ since ≤ c0 ∧ since ≤ c ∧ Lmr k E xs hs R ∧
    H = (r, Obj.map (ents KK hdv hs bs).toArray c) :: (b, Obj.mapIter (some r) since seen c0) :: R ∧ left = leftL xs bs seen ∧
    (∀ e a cc, cur = some (e, a, cc) → ∃ (i bi : Nat) (seen' : Array Nat), hs[i]? = some (e.1, (a, e.2.length, cc)) ∧ bs[i]? = some bi ∧ seen = seen'.push bi ∧ c0 = c)
variable {k E KK}
theorem ents_born (kv : Hd → Value) : ∀ (hs : List (κ × Hd)) (bs : List Nat), bs.length = hs.length → (ents KK kv hs bs).map (·.born) = bs
  | [], [], _ => rfl
  | [], _ :: _, h => by simp at h
  | _ :: _, [], h => by simp at h
  | e :: r, b :: bs, h => by simp [ents, ents_born kv r bs (by simpa using h)]
theorem zip_snd : ∀ (xs : List (κ × List α)) (bs : List Nat), bs.length = xs.length → (xs.zip bs).map (·.2) = bs
  | [], [], _ => rfl
  | [], _ :: _, h => by simp at h
  | _ :: _, [], h => by simp at h
  | e :: r, b :: bs, h => by simp [zip_snd r bs (by simpa using h)]
theorem leftL_all (xs : List (κ × List α)) (bs : List Nat) (h : bs.length = xs.length) : leftL xs bs #[] = xs := by
  unfold leftL
  have : (xs.zip bs).filter (fun p => !(#[] : Array Nat).contains p.2) = xs.zip bs := by
    apply List.filter_eq_self.2; intro p _; simp
  rw [this]
  clear this
  induction xs generalizing bs with
  | nil => rfl
  | cons a r ih =>
    cases bs with
    | nil => simp at h
    | cons b bs => simp [ih bs (by simpa using h)]
theorem left_len (hs : List (κ × Hd)) (xs : List (κ × List α)) (bs : List Nat) (seen : Array Nat) (h1 : bs.length = hs.length) (h2 : bs.length = xs.length) :
    (leftOf (ents KK hdv hs bs).toArray seen).size = (leftL xs bs seen).length := by
  have e1 : ((leftOf (ents KK hdv hs bs).toArray seen).toList.map (·.born)) = bs.filter (fun b => !seen.contains b) := by
    unfold leftOf
    have : ((ents KK hdv hs bs).toArray.filter fun e => !seen.contains e.born).toList = (ents KK hdv hs bs).filter (fun e => !seen.contains e.born) := by simp
    rw [this]
    conv => rhs; rw [← ents_born (KK := KK) hdv hs bs h1]
    rw [List.filter_map]; rfl
  have e2 : ((xs.zip bs).filter (fun p => !seen.contains p.2)).map (·.2) = bs.filter (fun b => !seen.contains b) := by
    conv => rhs; rw [← zip_snd xs bs h2]
    rw [List.filter_map]; rfl
  have l1 := congrArg List.length e1
  have l2 := congrArg List.length e2
  rw [List.length_map] at l1 l2
  unfold leftL
  rw [List.length_map, l2, ← l1]; simp
end
section rules
variable {κ α : Type} [DecidableEq κ] {t : TypeId} {k : Fl α} {E : TypeId}
variable {T : Ty P} {n : Nat} {Q : Exit → Act → World → Prop} {env : Env} {H : Hp} {HL : List Hp} {ops : Array Oper} {i : Nat} {K : Act → World → Prop} {o : Oper}
theorem at_range (T : Ty P) {d mt et : TypeId} (KK : Ky P t κ) {x : Operand} {xs : List (κ × List α)} {r : Nat} {Hj : Hp} (j : Nat)
    (hs : slot n ops env i = some (o, d)) (hop : o.op = .range mt x) (hx : ev env x = some (.map (some r))) (hu : T.und mt = some (.map t et))
    (hj : idx j HL = some Hj) (so : MsO k E KK xs r Hj)
    (h : ∀ b H', RgO k E KK xs none r b H' → AtL W n K ((d, .pointer (some ⟨b, 0, none⟩)) :: env) (HL.set j H')) : AtL W n (wpOp P ops Q i K) env HL := by
  obtain ⟨ho, hw, hd, hn⟩ := slot_spec hs
  obtain ⟨hs', H0, R, ⟨bs, c, hl, ⟨hnd, hc⟩, rfl⟩, hL, rfl⟩ := so
  rw [idx_eq] at hj
  have hlx := lmr_len _ _ _ hL
  refine at_val_w (β := { p : Nat × Hp // RgO k E KK xs none r p.1 p.2 }) (V := fun p => .pointer (some ⟨p.1.1, 0, none⟩)) (G := fun p => (HL.set j p.1.2).flatten) ho hw hd hn (fun tt w s ow => ?_) (fun p => h _ _ p.2)
  have hb := (own_get hj ow).lookup (b := r) (o := Obj.map (ents KK hdv hs' bs).toArray c) (by simp)
  refine ⟨⟨(w.heap.size, (r, Obj.map (ents KK hdv hs' bs).toArray c) :: (w.heap.size, Obj.mapIter (some r) c #[] c) :: R), ⟨xs, hs', bs, c, R, c, #[], c, hl, hnd, hc, Nat.le_refl _, Nat.le_refl _, hL, rfl, (leftL_all xs bs (by omega)).symm, fun _ _ _ q => by cases q⟩⟩, w.alloc (.mapIter (some r) c #[] c), ?_, ?_⟩
  · unfold execOp
    simp [hop, ev_eval s hx, Instr.range, run_und hu, MapKept.run_getObj_map hb]
  · have h1 := (own_get hj ow).alloc (.mapIter (some r) c #[] c)
    refine own_set hj (h1.perm ?_)
    simp only [List.singleton_append, List.cons_append]
    exact List.Perm.swap _ _ _
theorem at_next (T : Ty P) {d b r : Nat} (KK : Ky P t κ) {x : Operand} {left : List (κ × List α)} {cur : Option ((κ × List α) × Option Addr × Nat)} {Hj : Hp} (j : Nat)
    (hs : slot n ops env i = some (o, d)) (hop : o.op = .next x false) (hx : ev env x = some (.pointer (some ⟨b, 0, none⟩))) (hj : idx j HL = some Hj) (so : RgO k E KK left cur r b Hj)
    (h0 : left = [] → AtL W n K ((d, .tuple #[.bool false]) :: env) HL)
    (h1 : ∀ e left' a cc H', Pickd left e left' → SliceR k e.2 a H' → e.2.length ≤ cc → RgO k E KK left' (some (e, a, cc)) r b H' →
      AtL W n K ((d, .tuple #[.bool true, KK.enc e.1, .slice a e.2.length cc]) :: env) (HL.set j H')) : AtL W n (wpOp P ops Q i K) env HL := by
  obtain ⟨ho, hw, hd, hn⟩ := slot_spec hs
  obtain ⟨xs, hs', bs, c, R, since, seen, c0, hl, hnd, hsn, hs0, hsc, hL, rfl, hlf, _⟩ := so
  rw [idx_eq] at hj
  have hlx := lmr_len _ _ _ hL
  refine at_val_w (β := { p : Option ((κ × List α) × List (κ × List α) × Option Addr × Nat × Hp) // match p with | none => left = [] | some (e, left', a, cc, H') => Pickd left e left' ∧ SliceR k e.2 a H' ∧ e.2.length ≤ cc ∧ RgO k E KK left' (some (e, a, cc)) r b H' })
    (V := fun p => match p.1 with | none => .tuple #[.bool false] | some (e, _, a, cc, _) => .tuple #[.bool true, KK.enc e.1, .slice a e.2.length cc])
    (G := fun p => match p.1 with | none => HL.flatten | some (_, _, _, _, H') => (HL.set j H').flatten) ho hw hd hn (fun tt w s ow => ?_) (fun p => ?_)
  · have og := own_get hj ow
    have hb := og.lookup (b := r) (o := Obj.map (ents KK hdv hs' bs).toArray c) (by simp)
    have hr := og.lookup (b := b) (o := Obj.mapIter (some r) since seen c0) (by simp)
    have hborn := ents_born (KK := KK) hdv hs' bs hl
    have hold : ∀ y ∈ (ents KK hdv hs' bs).toArray.toList, y.born < since := fun y hy => hsn _ (by rw [← hborn]; exact List.mem_map.2 ⟨y, by simpa using hy, rfl⟩)
    have hexec : ∀ (v : Value) (w' : World), (Instr.next (.pointer (some ⟨b, 0, none⟩)) false o.type).run P w = .ok v w' → (execOp (Act.eval ⟨tt, []⟩) o).run P w = .ok (.value v) w' := fun v w' q => by
      unfold execOp
      simp [hop, ev_eval s hx, q]
    rcases run_next_at (P := P) w o.type b r since c0 seen _ c hr hb hold hs0 with ⟨hz, hrun⟩ | ⟨e, he, w1, hal, hrun⟩
    · refine ⟨⟨none, ?_⟩, w, hexec _ _ hrun, ow⟩
      have := left_len (KK := KK) hs' xs bs seen hl (by omega)
      rw [hz] at this
      simp only
      rw [hlf]; exact List.length_eq_zero_iff.1 this.symm
    · obtain ⟨hem, hes⟩ := mem_left he
      obtain ⟨q, hq⟩ := List.getElem?_of_mem (by simpa using hem : e ∈ ents KK hdv hs' bs)
      have hql : q < hs'.length := by
        have := (List.getElem?_eq_some_iff.1 hq).1
        rw [ents_length KK hdv hs' bs hl] at this; exact this
      obtain ⟨b0, g1, g2⟩ := ents_get KK hdv hs' bs q hs'[q] hl (List.getElem?_eq_getElem hql)
      rw [hq] at g1
      have ee := Option.some.inj g1
      obtain ⟨l, cc, a1, a2, a3, a4⟩ := lmr_at xs hs' R q hs'[q] hL (List.getElem?_eq_getElem hql)
      have hz : (xs.zip bs)[q]? = some ((hs'[q].1, l), b0) := by
        rw [List.getElem?_zip_eq_some]; exact ⟨a1, g2⟩
      have eb : e.born = b0 := by rw [ee]
      have hpk := pick_filter (fun y => !seen.contains y) b0 (xs.zip bs) q (hs'[q].1, l) (by rw [zip_snd xs bs (by omega)]; exact hnd) hz (by rw [← eb, hes]; rfl)
      have hleft' : leftL xs bs (seen.push b0) = ((xs.zip bs).filter (fun x => !seen.contains x.2 && !(x.2 == b0))).map (·.1) := by
        unfold leftL
        congr 1
        apply List.filter_congr
        intro y _
        rw [contains_push, Bool.not_or]
      have hnew : RgO k E KK (leftL xs bs (seen.push b0)) (some ((hs'[q].1, l), hs'[q].2.1, cc)) r b ((r, Obj.map (ents KK hdv hs' bs).toArray c) :: (b, Obj.mapIter (some r) since (seen.push b0) c) :: R) :=
        ⟨xs, hs', bs, c, R, since, seen.push b0, c, hl, hnd, hsn, hsc, hsc, hL, rfl, rfl, fun e' a' cc' q' => by
          obtain ⟨rfl, rfl, rfl⟩ : (hs'[q].1, l) = e' ∧ hs'[q].2.1 = a' ∧ cc = cc' := by
            have := Option.some.inj q'
            exact ⟨congrArg (·.1) this, congrArg (·.2.1) this, congrArg (·.2.2) this⟩
          exact ⟨q, b0, seen, by rw [List.getElem?_eq_getElem hql]; congr 1; exact Prod.ext rfl a2, g2, rfl, rfl⟩⟩
      refine ⟨⟨some ((hs'[q].1, l), leftL xs bs (seen.push b0), hs'[q].2.1, cc, (r, Obj.map (ents KK hdv hs' bs).toArray c) :: (b, Obj.mapIter (some r) since (seen.push b0) c) :: R), ?_⟩, setBlock w1 b (.mapIter (some r) since (seen.push e.born) c), hexec _ _ ?_, ?_⟩
      · refine ⟨?_, a3.mono (fun y hy => List.mem_cons_of_mem _ (List.mem_cons_of_mem _ hy)), a4, hnew⟩
        rw [hlf, hleft']; exact hpk
      · rw [hrun, ee]
        simp only [hdv]
        rw [a2]
      · have og1 : Own W w1 (((r, Obj.map (ents KK hdv hs' bs).toArray c) :: (b, Obj.mapIter (some r) since seen c0) :: R) ++ (HL.eraseIdx j).flatten) := by
          rcases hal with rfl | rfl
          · exact og
          · exact og.drew
        refine own_set hj ?_
        have og2 := og1.perm (List.Perm.swap _ _ _)
        have := og2.turn (o' := .mapIter (some r) since (seen.push b0) c) (w' := setBlock w1 b (.mapIter (some r) since (seen.push e.born) c)) (by rw [eb]; rfl) rfl rfl rfl
        exact this.perm (List.Perm.swap _ _ _)
  · obtain ⟨p, hp⟩ := p
    cases p with
    | none => exact h0 hp
    | some q =>
      obtain ⟨e, left', a, cc, H'⟩ := q
      obtain ⟨q1, q2, q3, q4⟩ := hp
      exact h1 e left' a cc H' q1 q2 q3 q4
/-- the entry that came -/
theorem g_entry (T : Ty P) {b r j : Nat} (KK : Ky P t κ) {x : Operand} {left : List (κ × List α)} {e : κ × List α} {a : Option Addr} {cc : Nat} {Hj : Hp}
    (hop : o.op = .entry x) (hx : ev env x = some (.pointer (some ⟨b, 0, none⟩))) (hj : idx j HL = some Hj) (so : RgO k E KK left (some (e, a, cc)) r b Hj) :
    Gives W P n env HL.flatten o (.tuple #[KK.enc e.1, .slice a e.2.length cc]) := by
  intro t' w s ow
  obtain ⟨xs, hs', bs, c, R, since, seen, c0, hl, hnd, hsn, hs0, hsc, hL, rfl, hlf, hcur⟩ := so
  obtain ⟨q, bi, seen', q1, q2, rfl, rfl⟩ := hcur e a cc rfl
  rw [idx_eq] at hj
  have og := own_get hj ow
  have hb := og.lookup (b := r) (o := Obj.map (ents KK hdv hs' bs).toArray c0) (by simp)
  have hr := og.lookup (b := b) (o := Obj.mapIter (some r) since (seen'.push bi) c0) (by simp)
  obtain ⟨b0, g1, g2⟩ := ents_get KK hdv hs' bs q _ hl q1
  rw [q2] at g2
  obtain rfl := Option.some.inj g2
  have hborn := ents_born (KK := KK) hdv hs' bs hl
  have := run_entry_at (P := P) w b r since seen' (ents KK hdv hs' bs).toArray c0 ⟨KK.enc e.1, hdv (a, e.2.length, cc), bi⟩ hr hb (by simpa using List.mem_of_getElem? g1) (by simpa [hborn] using hnd)
  unfold execOp
  simp [hop, ev_eval s hx, this, hdv]
end rules
end
end Go.Hx
