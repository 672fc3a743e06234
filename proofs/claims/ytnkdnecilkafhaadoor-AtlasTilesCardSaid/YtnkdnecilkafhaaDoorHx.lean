/- The logic of this claim: what holds of slots and blocks while a piece of Go code runs, rule by rule. -/
import Derived.WalkKit
import Derived.Deep.Quiet
import Derived.OrdersHeld
import Derived.ProofKit
import Derived.OpenShut
import Derived.ChangeOld
import Derived.Below
import Derived.ChangeSlices
namespace Go.Hx
set_option linter.unusedVariables false
set_option linter.unusedSimpArgs false
set_option linter.unusedSectionVars false
section
variable {W : World}
abbrev Env := List (Nat × Value)
abbrev Hp := List (Nat × Obj)

/-- these blocks, each once, hold these objects -/
def Own (W w : World) (H : Hp) : Prop := (w.os = W.os ∧ w.tape = W.tape ∧ w.output = W.output) ∧ (H.map (·.1)).Nodup ∧ ∀ c ∈ H, w.heap[c.1]? = some c.2

theorem beq_ff {a b : Nat} (h : ¬ a = b) : Nat.beq a b = false := by
  cases e : Nat.beq a b
  · rfl
  · exact absurd (Nat.eq_of_beq_eq_true e) h

def lk (k : Nat) : Env → Option Value
  | [] => none
  | e :: r => bif Nat.beq k e.1 then some e.2 else lk k r

def Slots (n : Nat) (t : Array Value) (env : Env) : Prop := t.size = n ∧ ∀ k v, lk k env = some v → t[k]? = some v

/-- wherever the slots and the heap are so, F holds -/
def At (W : World) (n : Nat) (F : Act → World → Prop) (env : Env) (H : Hp) : Prop :=
  ∀ t w, Slots n t env → Own W w H → F ⟨t, []⟩ w

def ev (env : Env) : Operand → Option Value
  | .tmp k => lk k env
  | .const v => some v
  | .global g => some (.pointer (some ⟨g, 0, none⟩))
  | .func f => some (.func (.func f) #[] #[])

theorem ev_eval {n : Nat} {t : Array Value} {env : Env} {x : Operand} {v : Value} (hs : Slots n t env) (h : ev env x = some v) :
    Act.eval ⟨t, []⟩ x = v := by
  cases x with
  | tmp k => have := hs.2 k v h; simp [Act.eval, Array.getD_eq_getD_getElem?, this]
  | const c => simpa [ev, Act.eval] using h
  | global g => simpa [ev, Act.eval] using h
  | func f => simpa [ev, Act.eval] using h

theorem Slots.put {n : Nat} {t : Array Value} {env : Env} {d : Nat} {v : Value} (hs : Slots n t env) (hd : d < n) :
    Slots n (t.setIfInBounds d v) ((d, v) :: env) := by
  refine ⟨by simp [hs.1], fun k u h => ?_⟩
  simp only [lk] at h
  by_cases hk : k = d
  · subst hk
    have : Nat.beq k k = true := by simp
    rw [this] at h; simp at h
    subst h
    simp [hs.1, hd]
  · have : Nat.beq k d = false := beq_ff hk
    rw [this] at h; simp at h
    have := hs.2 k u h
    rw [Array.getElem?_setIfInBounds_ne (by omega)]
    exact this

def sub (env' env : Env) : Prop :=
  match env' with
  | [] => True
  | e :: r => lk e.1 env = some e.2 ∧ sub r env

theorem sub_lk {env : Env} : ∀ {env' : Env} {k : Nat} {v : Value}, sub env' env → lk k env' = some v → lk k env = some v
  | [], _, _, _, h => by simp [lk] at h
  | e :: r, k, v, hs, h => by
    simp only [lk] at h
    by_cases hk : k = e.1
    · subst hk
      have : Nat.beq e.1 e.1 = true := by simp
      rw [this] at h; simp at h
      rw [← h]; exact hs.1
    · have : Nat.beq k e.1 = false := beq_ff hk
      rw [this] at h; simp at h
      exact sub_lk hs.2 h

theorem Slots.sub {n : Nat} {t : Array Value} {env env' : Env} (h : sub env' env) (hs : Slots n t env) : Slots n t env' :=
  ⟨hs.1, fun k v hk => hs.2 k v (sub_lk h hk)⟩

/-! ### the heap -/
theorem Own.nodup {w : World} {H : Hp} (h : Own W w H) : (H.map (·.1)).Nodup := h.2.1

theorem Own.lookup {w : World} {H : Hp} {b : Nat} {o : Obj} (h : Own W w H) (hm : (b, o) ∈ H) : w.heap[b]? = some o := h.2.2 _ hm

theorem Own.lt {w : World} {H : Hp} {b : Nat} {o : Obj} (h : Own W w H) (hm : (b, o) ∈ H) : b < w.heap.size := by
  have := h.lookup hm
  exact (Array.getElem?_eq_some_iff.1 this).1

theorem Own.perm {w : World} {H H' : Hp} (h : Own W w H) (hp : H.Perm H') : Own W w H' :=
  ⟨h.1, (hp.map _).nodup_iff.1 h.2.1, fun c hc => h.2.2 c (hp.mem_iff.2 hc)⟩

theorem Own.sub {w : World} {H H' : Hp} (h : Own W w H) (hp : H'.Sublist H) : Own W w H' :=
  ⟨h.1, h.2.1.sublist (hp.map _), fun c hc => h.2.2 c (hp.subset hc)⟩

theorem Own.left {w : World} {A B : Hp} (h : Own W w (A ++ B)) : Own W w A := h.sub (List.sublist_append_left _ _)
theorem Own.right {w : World} {A B : Hp} (h : Own W w (A ++ B)) : Own W w B := h.sub (List.sublist_append_right _ _)

theorem Own.drew {w : World} {H : Hp} (h : Own W w H) : Own W w.drew H := h

theorem Own.alloc {w : World} {H : Hp} (o : Obj) (h : Own W w H) : Own W (w.alloc o) ((w.heap.size, o) :: H) := by
  refine ⟨h.1, ?_, ?_⟩
  · simp only [List.map_cons, List.nodup_cons]
    refine ⟨?_, h.2.1⟩
    intro hm
    obtain ⟨c, hc, he⟩ := List.mem_map.1 hm
    have := h.lt (b := c.1) (o := c.2) hc
    omega
  · intro c hc
    rcases List.mem_cons.1 hc with rfl | hc
    · show (w.heap.push o)[w.heap.size]? = some o
      simp
    · have hl := h.lt (b := c.1) (o := c.2) hc
      have := h.2.2 c hc
      show (w.heap.push o)[c.1]? = some c.2
      rw [Array.getElem?_push]
      have : ¬ c.1 = w.heap.size := by omega
      simp [this, h.2.2 c hc]

/-- the head block is turned into another object -/
theorem Own.turn {w w' : World} {H : Hp} {b : Nat} {o o' : Obj} (h : Own W w ((b, o) :: H)) (e : w'.heap = w.heap.setIfInBounds b o') (e1 : w'.os = w.os) (e2 : w'.tape = w.tape) (e3 : w'.output = w.output) :
    Own W w' ((b, o') :: H) := by
  have hl := h.lt (b := b) (o := o) (by simp)
  refine ⟨⟨e1.trans h.1.1, e2.trans h.1.2.1, e3.trans h.1.2.2⟩, by simpa using h.2.1, ?_⟩
  intro c hc
  rcases List.mem_cons.1 hc with rfl | hc
  · rw [e]; simp [hl]
  · rw [e]
    have hne : c.1 ≠ b := by
      intro he
      have hn := h.2.1
      simp only [List.map_cons, List.nodup_cons] at hn
      exact hn.1 (List.mem_map.2 ⟨c, hc, he⟩)
    rw [Array.getElem?_setIfInBounds_ne (by omega)]
    exact h.2.2 c (List.mem_cons_of_mem _ hc)

theorem Own.cell {w : World} {H : Hp} {b : Nat} {c : Array Value} {T : TypeId} {fr : Nat × Nat} {off : Nat} {v : Value} (h : Own W w H)
    (hm : (b, Obj.cells c T fr) ∈ H) (hv : c[off]? = some v) : w.cell? ⟨b, off, none⟩ = some v := by
  have := h.lookup hm
  simp [World.cell?, this, hv]

theorem Own.unfrozen {w : World} {H : Hp} {b : Nat} {c : Array Value} {T : TypeId} {off : Nat} (h : Own W w H)
    (hm : (b, Obj.cells c T (0, 0)) ∈ H) : w.frozen? ⟨b, off, none⟩ = false := by
  have := h.lookup hm
  simp [World.frozen?, this]

theorem setCell_heap {w : World} {b off : Nat} {c : Array Value} {T : TypeId} {fr : Nat × Nat} {v : Value} (h : w.heap[b]? = some (.cells c T fr)) :
    (w.setCell ⟨b, off, none⟩ v).heap = w.heap.setIfInBounds b (.cells (c.setIfInBounds off v) T fr) := by
  obtain ⟨hl, he⟩ := Array.getElem?_eq_some_iff.1 h
  simp only [World.setCell]
  apply Array.ext_getElem?
  intro i
  rw [Array.getElem?_modify]
  by_cases hi : b = i
  · subst hi
    simp [hl]; rw [he]
  · simp [Array.getElem?_setIfInBounds_ne hi, hi]

theorem Own.setCell {w : World} {H : Hp} {b off : Nat} {c : Array Value} {T : TypeId} {v : Value} (h : Own W w ((b, .cells c T (0, 0)) :: H)) :
    Own W (w.setCell ⟨b, off, none⟩ v) ((b, .cells (c.setIfInBounds off v) T (0, 0)) :: H) :=
  h.turn (setCell_heap (h.lookup (by simp))) rfl rfl rfl
end

section
variable {W : World}
section rules
variable {P : Program} {n : Nat} {Q : Exit → Act → World → Prop} {env : Env} {H : Hp}

theorem At.mono {F G : Act → World → Prop} (h : At W n F env H) (hf : ∀ a w, F a w → G a w) : At W n G env H :=
  fun t w hs ho => hf _ _ (h t w hs ho)

/-- forget slots -/
theorem at_sub {F : Act → World → Prop} (env' : Env) (hs : sub env' env) (h : At W n F env' H) : At W n F env H :=
  fun t w s o => h t w (s.sub hs) o

/-- forget, or order anew, blocks -/
theorem at_heap {F : Act → World → Prop} {H' : Hp} (hh : ∀ w, Own W w H → Own W w H') (h : At W n F env H') : At W n F env H :=
  fun t w s o => h t w s (hh w o)

theorem at_perm {F : Act → World → Prop} {H' : Hp} (hh : H.Perm H') (h : At W n F env H') : At W n F env H :=
  at_heap (fun _ o => o.perm hh) h

theorem at_skip (h : At W n (Q .normal) env H) : At W n (Code.skip.wp P Q) env H := fun t w s o => wp_skip (h t w s o)
theorem at_ret (h : At W n (Q .ret) env H) : At W n (Code.ret.wp P Q) env H := fun t w s o => wp_ret (h t w s o)
theorem at_exit {id : Nat} (h : At W n (Q (.exit id)) env H) : At W n ((Code.exit id).wp P Q) env H := fun t w s o => wp_exit (h t w s o)
theorem at_seq {x y : Code} (h : At W n (x.wp P (Exit.then (y.wp P Q) Q)) env H) : At W n ((Code.seq x y).wp P Q) env H :=
  fun t w s o => wp_seq (h t w s o)
theorem at_block {id : Nat} {c : Code} (h : At W n (c.wp P (Exit.inBlock id Q)) env H) : At W n ((Code.block id c).wp P Q) env H :=
  fun t w s o => wp_block (h t w s o)
theorem at_cond {c : Operand} {x y : Code} {b : Bool} (hc : ev env c = some (.bool b)) (ht : b = true → At W n (x.wp P Q) env H)
    (hf : b = false → At W n (y.wp P Q) env H) : At W n ((Code.cond c x y).wp P Q) env H := fun t w s o => by
  refine wp_cond (t := b) (ev_eval s hc) ?_
  cases b
  · exact hf rfl t w s o
  · exact ht rfl t w s o
theorem at_cond_t {c : Operand} {x y : Code} (hc : ev env c = some (.bool true)) (h : At W n (x.wp P Q) env H) : At W n ((Code.cond c x y).wp P Q) env H :=
  at_cond hc (fun _ => h) (fun e => by cases e)
theorem at_cond_f {c : Operand} {x y : Code} (hc : ev env c = some (.bool false)) (h : At W n (y.wp P Q) env H) : At W n ((Code.cond c x y).wp P Q) env H :=
  at_cond hc (fun e => by cases e) (fun _ => h)

/-- the way out of a piece, made bare -/
theorem at_then {K : Act → World → Prop} (h : At W n K env H) : At W n (Exit.then K Q .normal) env H := h
theorem at_cut {F : Act → World → Prop} {env' : Env} {H' : Hp} (hs : sub env' env) (hh : ∀ w, Own W w H → Own W w H') (h : At W n F env' H') : At W n F env H :=
  fun t w s o => h t w (s.sub hs) (hh w o)

/-- where a round ends: in a state that is less -/
def Round {σ : Type} (W : World) (n : Nat) (I : σ → Prop) (E : σ → Env) (G : σ → Hp) (m : σ → Nat) (s : σ) : Act → World → Prop := fun a w =>
  ∃ s', I s' ∧ m s' < m s ∧ ∃ t, a = ⟨t, []⟩ ∧ Slots n t (E s') ∧ Own W w (G s')

theorem at_round {σ : Type} {I : σ → Prop} {E : σ → Env} {G : σ → Hp} {m : σ → Nat} {s : σ} (s' : σ) (hi : I s') (hm : m s' < m s) (hs : sub (E s') env)
    (hh : ∀ w, Own W w H → Own W w (G s')) : At W n (Round W n I E G m s) env H :=
  fun t w sl o => ⟨s', hi, hm, t, rfl, sl.sub hs, hh w o⟩

/-- a loop: states, each with its slots and blocks; a measure -/
theorem at_loop {c : Code} {σ : Type} (I : σ → Prop) (E : σ → Env) (G : σ → Hp) (m : σ → Nat) (s0 : σ) (hi : I s0) (hs : sub (E s0) env)
    (hh : ∀ w, Own W w H → Own W w (G s0)) (round : ∀ s, I s → At W n (c.wp P (Exit.then (Round W n I E G m s) Q)) (E s) (G s)) :
    At W n ((Code.loop c).wp P Q) env H := by
  intro t w sl o b k cs
  have key : ∀ j s, I s → m s = j → ∀ t w, Slots n t (E s) → Own W w (G s) →
      ∃ e a' w', Q e a' w' ∧ Arrives P (lone (b.at ⟨t, []⟩ (.code c :: .inLoop c :: k)) cs w) b k cs e a' w' := by
    intro j
    induction j using Nat.strongRecOn with
    | _ j ih =>
      intro s hI hj t w sl o
      obtain ⟨e, a₁, w₁, hq, harr⟩ := round s hI t w sl o b (.inLoop c :: k) cs
      cases e with
      | normal =>
        obtain ⟨s', hI', hlt, t', rfl, sl', o'⟩ := hq
        obtain ⟨e₂, a₂, w₂, hq₂, harr₂⟩ := ih (m s') (hj ▸ hlt) s' hI' rfl t' w₁ sl' o'
        exact ⟨e₂, a₂, w₂, hq₂, .of_steps (Steps.trans harr (.one step_inLoop)) harr₂⟩
      | exit id => exact ⟨_, a₁, w₁, hq, .pass (x := .inLoop c) rfl (fun _ _ => .inl (by simp)) harr⟩
      | goto l => exact ⟨_, a₁, w₁, hq, .pass (x := .inLoop c) rfl (fun _ _ => .inl (by simp)) harr⟩
      | ret => exact ⟨_, a₁, w₁, hq, .pass (x := .inLoop c) rfl (fun _ _ => .inl (by simp)) harr⟩
      | panic ch => exact ⟨_, a₁, w₁, hq, .pass (x := .inLoop c) rfl (fun _ _ => .inl (by simp)) harr⟩
      | outgrown => exact ⟨_, a₁, w₁, hq, .pass (x := .inLoop c) rfl (fun _ _ => .inl (by simp)) harr⟩
  obtain ⟨e, a', w', hq, harr⟩ := key _ s0 hi rfl t w (sl.sub hs) (hh w o)
  exact ⟨e, a', w', hq, .of_steps (.one step_loop) harr⟩

/-! ### regions -/
variable {ops : Array Oper} {i : Nat} {K : Act → World → Prop} {o : Oper}

theorem at_region {id : Nat} (l : List Nat) (hl : List.range ops.size = l) (h : At W n (wpOps P ops Q l) env H) : At W n ((Code.region id ops false).wp P Q) env H :=
  fun t w s ow => wp_region (hl ▸ h t w s ow)

theorem at_end (h : At W n (Q .normal) env H) : At W n (wpOps P ops Q []) env H := h

theorem at_cons {rest : List Nat} (h : At W n (wpOp P ops Q i (wpOps P ops Q rest)) env H) : At W n (wpOps P ops Q (i :: rest)) env H :=
  fun t w s ow => by rw [wpOps_cons]; exact h t w s ow

/-- is the operation wanted, as far as the slots tell -/
def want (ops : Array Oper) (env : Env) (o : Oper) : Option Bool :=
  match o.guard with
  | none => some true
  | some (j, b) =>
    match (ops[j]?).bind (·.dst) with
    | none => none
    | some s => match lk s env with
      | some (.bool c) => some (c == b)
      | some _ => some false
      | none => none

theorem want_wanted {t : Array Value} {b : Bool} (s : Slots n t env) (h : want ops env o = some b) : Region.wanted o (yielded ops t) = b := by
  unfold want at h
  unfold Region.wanted
  cases hg : o.guard with
  | none => simp [hg] at h; simp [h]
  | some jb =>
    obtain ⟨j, c⟩ := jb
    simp only [hg] at h ⊢
    cases hd : (ops[j]?).bind (·.dst) with
    | none => simp [hd] at h
    | some d =>
      simp only [hd] at h
      cases hl : lk d env with
      | none => simp [hl] at h
      | some v =>
        simp only [hl] at h
        have hs := s.2 d _ hl
        cases v
        case bool x =>
          have hy : yielded ops t j = some x := by
            unfold yielded
            rw [hd]; simp [hs]
          have h : some (x == c) = some b := h
          injection h with h
          rw [hy, ← h]
          cases x <;> cases c <;> rfl
        all_goals
          have hy : yielded ops t j = none := by
            unfold yielded
            rw [hd]; simp [hs]
          have h : some false = some b := h
          injection h with h
          rw [hy, ← h]
          cases c <;> rfl

/-- an operation that its guard does not want -/
theorem at_no {d : Nat} (ho : ops[i]? = some o) (hw : want ops env o = some false) (hd : o.dst = some d) (hn : d < n)
    (h : At W n K ((d, undef) :: env) H) : At W n (wpOp P ops Q i K) env H := by
  intro t w s ow
  have := h _ w (s.put (v := undef) hn) ow
  unfold wpOp
  simp only [ho, want_wanted s hw]
  simpa [Act.put, hd] using this
theorem at_no_none (ho : ops[i]? = some o) (hw : want ops env o = some false) (hd : o.dst = none)
    (h : At W n K env H) : At W n (wpOp P ops Q i K) env H := by
  intro t w s ow
  have := h _ w s ow
  unfold wpOp
  simp only [ho, want_wanted s hw]
  simpa [Act.put, hd] using this

/-- an operation that goes well -/
theorem at_op (ho : ops[i]? = some o) (hw : want ops env o = some true)
    (h : At W n (fun a w => o.upon P a K Q ((execOp a.eval o).run P w)) env H) : At W n (wpOp P ops Q i K) env H := by
  intro t w s ow
  have := h t w s ow
  unfold wpOp
  simp only [ho, want_wanted s hw, if_true]
  exact .inl this

/-- ... with a value, the world as it is -/
theorem at_val {d : Nat} {v : Value} (ho : ops[i]? = some o) (hw : want ops env o = some true) (hd : o.dst = some d) (hn : d < n)
    (hv : ∀ t w, Slots n t env → Own W w H → (execOp (Act.eval ⟨t, []⟩) o).run P w = .ok (.value v) w)
    (h : At W n K ((d, v) :: env) H) : At W n (wpOp P ops Q i K) env H := by
  refine at_op ho hw fun t w s ow => ?_
  show o.upon P ⟨t, []⟩ K Q ((execOp (Act.eval ⟨t, []⟩) o).run P w)
  rw [hv t w s ow, Oper.upon_value]
  have := h _ w (s.put (v := v) hn) ow
  simpa [Act.put, hd] using this

/-- ... with a value, and another world -/
theorem at_val_w {d : Nat} {β : Type} {V : β → Value} {G : β → Hp} (ho : ops[i]? = some o) (hw : want ops env o = some true) (hd : o.dst = some d) (hn : d < n)
    (hv : ∀ t w, Slots n t env → Own W w H → ∃ b w', (execOp (Act.eval ⟨t, []⟩) o).run P w = .ok (.value (V b)) w' ∧ Own W w' (G b))
    (h : ∀ b, At W n K ((d, V b) :: env) (G b)) : At W n (wpOp P ops Q i K) env H := by
  refine at_op ho hw fun t w s ow => ?_
  show o.upon P ⟨t, []⟩ K Q ((execOp (Act.eval ⟨t, []⟩) o).run P w)
  obtain ⟨b, w', hr, ow'⟩ := hv t w s ow
  rw [hr, Oper.upon_value]
  have := h b _ w' (s.put (v := V b) hn) ow'
  simpa [Act.put, hd] using this

/-- ... without a slot -/
theorem at_unit_w {β : Type} {G : β → Hp} (ho : ops[i]? = some o) (hw : want ops env o = some true) (hd : o.dst = none)
    (hv : ∀ t w, Slots n t env → Own W w H → ∃ b w', ((execOp (Act.eval ⟨t, []⟩) o).run P w = .ok .skip w' ∨ ∃ v, (execOp (Act.eval ⟨t, []⟩) o).run P w = .ok (.value v) w') ∧ Own W w' (G b))
    (h : ∀ b, At W n K env (G b)) : At W n (wpOp P ops Q i K) env H := by
  refine at_op ho hw fun t w s ow => ?_
  show o.upon P ⟨t, []⟩ K Q ((execOp (Act.eval ⟨t, []⟩) o).run P w)
  obtain ⟨b, w', hr, ow'⟩ := hv t w s ow
  have := h b _ w' s ow'
  rcases hr with hr | ⟨v, hr⟩
  · rw [hr, Oper.upon_skip]; simpa [Act.put, hd] using this
  · rw [hr, Oper.upon_value]; simpa [Act.put, hd] using this

/-- ... a call -/
theorem at_call {d : Nat} {f : FuncId} {args : Array Value} {β : Type} {V : β → Value} {G : β → Hp} (ho : ops[i]? = some o) (hw : want ops env o = some true) (hd : o.dst = some d) (hn : d < n)
    (hv : ∀ t w, Slots n t env → Own W w H → (execOp (Act.eval ⟨t, []⟩) o).run P w = .ok (.enter f args) w)
    (hc : ∀ w, Own W w H → Calls P f args w fun e w' => ∃ b, e = .returned (V b) ∧ Own W w' (G b))
    (h : ∀ b, At W n K ((d, V b) :: env) (G b)) : At W n (wpOp P ops Q i K) env H := by
  refine at_op ho hw fun t w s ow => ?_
  show o.upon P ⟨t, []⟩ K Q ((execOp (Act.eval ⟨t, []⟩) o).run P w)
  rw [hv t w s ow, Oper.upon_enter]
  refine (hc w ow).mono fun e w' ⟨b, he, ow'⟩ => ?_
  subst he
  have := h b _ w' (s.put (v := V b) hn) ow'
  simpa [Act.put, hd] using this
theorem at_call_none {f : FuncId} {args : Array Value} {β : Type} {V : β → Value} {G : β → Hp} (ho : ops[i]? = some o) (hw : want ops env o = some true) (hd : o.dst = none)
    (hv : ∀ t w, Slots n t env → Own W w H → (execOp (Act.eval ⟨t, []⟩) o).run P w = .ok (.enter f args) w)
    (hc : ∀ w, Own W w H → Calls P f args w fun e w' => ∃ b, e = .returned (V b) ∧ Own W w' (G b))
    (h : ∀ b, At W n K env (G b)) : At W n (wpOp P ops Q i K) env H := by
  refine at_op ho hw fun t w s ow => ?_
  show o.upon P ⟨t, []⟩ K Q ((execOp (Act.eval ⟨t, []⟩) o).run P w)
  rw [hv t w s ow, Oper.upon_enter]
  refine (hc w ow).mono fun e w' ⟨b, he, ow'⟩ => ?_
  subst he
  have := h b _ w' s ow'
  simpa [Act.put, hd] using this
end rules

/-- a function's body -/
theorem calls_at {P : Program} {f : FuncId} {fn : Func} {c : Code} {args : Array Value} {R : Ending → World → Prop} {H : Hp} (env : Env)
    (hf : P.funcs[f]? = some fn) (hb : fn.body = some c) (hn : args.size ≤ fn.ntmps) (hs : sub env ((args.toList.zipIdx).map fun x => (x.2, x.1)))
    (h : At W fn.ntmps (c.wp P (bodyPost P fn R)) env H) (w : World) (ow : Own W w H) : Calls P f args w R := by
  refine calls_of_wp hf hb (h _ w ?_ ow)
  refine Slots.sub hs ⟨by simp; omega, fun k v hk => ?_⟩
  have : ∀ (l : List Value) (m : Nat) (k : Nat) (v : Value), lk k ((l.zipIdx m).map fun x => (x.2, x.1)) = some v → m ≤ k ∧ l[k - m]? = some v := by
    intro l
    induction l with
    | nil => intro m k v h; simp [lk] at h
    | cons a l ih =>
      intro m k v h
      simp only [List.zipIdx_cons, List.map_cons, lk] at h
      by_cases hk : k = m
      · subst hk
        have : Nat.beq k k = true := by simp
        rw [this] at h
        simpa using h
      · rw [beq_ff hk] at h
        simp only [cond_false] at h
        obtain ⟨h1, h2⟩ := ih (m + 1) k v h
        refine ⟨by omega, ?_⟩
        have : k - m = (k - (m + 1)) + 1 := by omega
        rw [this]; simpa using h2
  obtain ⟨_, h2⟩ := this args.toList 0 k v hk
  have h3 : args[k]? = some v := by simpa using h2
  have hl := (Array.getElem?_eq_some_iff.1 h3).1
  rw [Array.getElem?_append]; simp [hl]; exact (Array.getElem?_eq_some_iff.1 h3).2
end

section
variable {W : World}
/-- what a program's types are, as far as a text needs it -/
structure Ty (P : Program) where
  und : TypeId → Option TypeDesc
  inf : TypeId → Option (Nat × Nat × Value)
  hund : ∀ t d, und t = some d → P.underlying t = some d
  hinf : ∀ t s b z, inf t = some (s, b, z) → ∃ i, P.info? t = some i ∧ i.size = s ∧ i.bytes = b ∧ i.zero = some z

variable {P : Program}

theorem run_und {T : Ty P} {t : TypeId} {d : TypeDesc} (h : T.und t = some d) (w : World) : (underlying t).run P w = .ok d w :=
  run_underlying (T.hund t d h) w
theorem run_size {T : Ty P} {t : TypeId} {s b : Nat} {z : Value} (h : T.inf t = some (s, b, z)) (w : World) : (sizeOf t).run P w = .ok s w := by
  obtain ⟨i, hi, rfl, rfl, _⟩ := T.hinf t s b z h
  simp [sizeOf, typeInfo, hi]
theorem run_info {T : Ty P} {t : TypeId} {s b : Nat} {z : Value} (h : T.inf t = some (s, b, z)) (w : World) :
    ∃ i, (typeInfo t).run P w = .ok i w ∧ i.size = s ∧ i.bytes = b ∧ i.zero = some z := by
  obtain ⟨i, hi, h1⟩ := T.hinf t s b z h
  exact ⟨i, by simp [typeInfo, hi], h1⟩
theorem run_zero {T : Ty P} {t : TypeId} {s b : Nat} {z : Value} (h : T.inf t = some (s, b, z)) (w : World) : (zeroValue t).run P w = .ok z w := by
  obtain ⟨i, hi, rfl, rfl, hz⟩ := T.hinf t s b z h
  simp [zeroValue, typeInfo, hi, hz]

def intBin (op : BinOp) (k : IntKind) (a b : Int) : Option Value :=
  match op with
  | .add => some (.int k (k.wrap (a + b)))
  | .sub => some (.int k (k.wrap (a - b)))
  | .mul => some (.int k (k.wrap (a * b)))
  | .eql => some (.bool (a == b))
  | .neq => some (.bool (a != b))
  | .lss => some (.bool (decide (a < b)))
  | .leq => some (.bool (decide (a ≤ b)))
  | .gtr => some (.bool (decide (a > b)))
  | .geq => some (.bool (decide (a ≥ b)))
  | .and => some (.int k (k.wrap (BitVec.ofInt k.bits a &&& BitVec.ofInt k.bits b).toNat))
  | .or => some (.int k (k.wrap (BitVec.ofInt k.bits a ||| BitVec.ofInt k.bits b).toNat))
  | .xor => some (.int k (k.wrap (BitVec.ofInt k.bits a ^^^ BitVec.ofInt k.bits b).toNat))
  | _ => none

def ikeq : IntKind → IntKind → Bool
  | .i8, .i8 | .i16, .i16 | .i32, .i32 | .i64, .i64 | .u8, .u8 | .u16, .u16 | .u32, .u32 | .u64, .u64 => true
  | _, _ => false
theorem ikeq_eq {a b : IntKind} (h : ikeq a b = true) : a = b := by cases a <;> cases b <;> first | rfl | cases h

def isEq : BinOp → Bool
  | .eql | .neq => true
  | _ => false

/-- plain operations, by their operands' values -/
def binVal (T : Ty P) (op : BinOp) (t : TypeId) : Value → Value → Option Value
  | .int k a, .int k' b => match op with
    | .shl => match b with
      | .ofNat m => some (.int k (k.wrap (a * 2 ^ (min m k.bits))))
      | _ => none
    | .shr => match b with
      | .ofNat m => some (.int k (a.fdiv (2 ^ (min m k.bits))))
      | _ => none
    | .quo => match b with
      | .ofNat (m + 1) => bif ikeq k k' then some (.int k (k.wrap (a.tdiv (.ofNat (m + 1))))) else none
      | _ => none
    | .rem => match b with
      | .ofNat (m + 1) => bif ikeq k k' then some (.int k (a.tmod (.ofNat (m + 1)))) else none
      | _ => none
    | _ => bif ikeq k k' then intBin op k a b else none
  | .bool a, .bool b => match T.und t, op with
    | some .bool, .eql => some (.bool (a == b))
    | some .bool, .neq => some (.bool (!(a == b)))
    | _, _ => none
  | .pointer a, .pointer none => match T.und t, op with
    | some (.pointer _), .eql => some (.bool a.isNone)
    | some (.pointer _), .neq => some (.bool (!a.isNone))
    | _, _ => none
  | .slice a _ _, .slice none _ _ => match T.und t, op with
    | some (.slice _), .eql => some (.bool a.isNone)
    | some (.slice _), .neq => some (.bool (!a.isNone))
    | _, _ => none
  | .string a, .string b => match op with
    | .eql => some (.bool (a.toList == b.toList))
    | .neq => some (.bool (!(a.toList == b.toList)))
    | _ => none
  | _, _ => none

theorem ite_both {α : Type} {c : Prop} [Decidable c] {a b r : α} (h1 : c → a = r) (h2 : ¬ c → b = r) : (if c then a else b) = r := by
  split
  · exact h1 ‹_›
  · exact h2 ‹_›

theorem forced_no {w : World} {op : BinOp} {t : TypeId} {x y : Operand} {a b : Value} (h : ∀ u v, ¬ (a = .agg u ∧ b = .agg v)) (h2 : a ≠ .nilIface) :
    (eqGuard op t x y a b).run P w = .ok () w := by
  unfold eqGuard
  rw [Sem.run_ite]
  refine ite_both (fun _ => rfl) (fun _ => ?_)
  cases a <;> cases b <;> first | rfl | (exact absurd rfl h2) | exact absurd ⟨rfl, rfl⟩ (h _ _)

section eqs
variable {T : Ty P} {t : TypeId} (w : World)
theorem eq_bool (hu : T.und t = some .bool) (a b : Bool) : (Op.equal t (.bool a) (.bool b)).run P w = .ok (a == b) w := by
  show (Op.equalIn (9999 + 1) t _ _).run P w = _
  generalize 9999 = d
  simp only [Op.equalIn, Sem.run_bind, run_und hu, Result.andThen_ok, Sem.run_pure]
theorem eq_ptr {e : TypeId} (hu : T.und t = some (.pointer e)) (a : Option Addr) : (Op.equal t (.pointer a) (.pointer none)).run P w = .ok a.isNone w := by
  show (Op.equalIn (9999 + 1) t _ _).run P w = _
  generalize 9999 = d
  cases a <;> simp only [Op.equalIn, Sem.run_bind, run_und hu, Result.andThen_ok, Sem.run_pure, Option.isNone]
theorem eq_slice {e : TypeId} (hu : T.und t = some (.slice e)) (a : Option Addr) (n c n' c' : Nat) : (Op.equal t (.slice a n c) (.slice none n' c')).run P w = .ok a.isNone w := by
  show (Op.equalIn (9999 + 1) t _ _).run P w = _
  generalize 9999 = d
  cases a <;> simp only [Op.equalIn, Sem.run_bind, run_und hu, Result.andThen_ok, Sem.run_pure, Option.isNone]
end eqs

theorem binVal_run {T : Ty P} {op : BinOp} {t : TypeId} {x y : Operand} {a b v : Value} (h : binVal T op t a b = some v) (w : World) :
    (do eqGuard op t x y a b; binOp op t a b).run P w = .ok v w := by
  have hg : (eqGuard op t x y a b).run P w = .ok () w := by
    apply forced_no
    · rintro u v ⟨rfl, rfl⟩; simp [binVal] at h
    · rintro rfl; simp [binVal] at h
  rw [Sem.run_bind, hg, Result.andThen_ok]
  unfold binVal at h
  split at h
  · rename_i k a k' b
    split at h
    · split at h
      · rename_i m
        simp at h; subst h
        have : ¬ ((m : Int) < 0) := by omega
        simp [binOp, Op.shift, this]
      · cases h
    · split at h
      · rename_i m
        simp at h; subst h
        have : ¬ ((m : Int) < 0) := by omega
        simp [binOp, Op.shift, this]
      · cases h
    · split at h
      · rename_i m
        cases hk : ikeq k k' <;> simp [hk] at h
        obtain rfl := ikeq_eq hk
        subst h
        have : ¬ ((m : Int) + 1 = 0) := by omega
        simp [binOp, Op.intDiv, this]
      · cases h
    · split at h
      · rename_i m
        cases hk : ikeq k k' <;> simp [hk] at h
        obtain rfl := ikeq_eq hk
        subst h
        have : ¬ ((m : Int) + 1 = 0) := by omega
        simp [binOp, Op.intDiv, this]
      · cases h
    · cases hk : ikeq k k' <;> simp [hk] at h
      obtain rfl := ikeq_eq hk
      cases op <;> simp [intBin] at h <;> subst h <;> simp [binOp, Op.intArith, Op.intCmp, Op.intBits]
  · split at h
    · rename_i hu; simp at h; subst h; simp only [binOp, Sem.run_bind, eq_bool w hu, Result.andThen_ok, Sem.run_pure]
    · rename_i hu; simp at h; subst h; simp only [binOp, Sem.run_bind, eq_bool w hu, Result.andThen_ok, Sem.run_pure]
    · cases h
  · split at h
    · rename_i hu; rw [Option.some.injEq] at h; subst h; simp only [binOp, Sem.run_bind, eq_ptr w hu, Result.andThen_ok, Sem.run_pure]
    · rename_i hu; rw [Option.some.injEq] at h; subst h; simp only [binOp, Sem.run_bind, eq_ptr w hu, Result.andThen_ok, Sem.run_pure]
    · cases h
  · split at h
    · rename_i hu; rw [Option.some.injEq] at h; subst h; simp only [binOp, Sem.run_bind, eq_slice w hu, Result.andThen_ok, Sem.run_pure]
    · rename_i hu; rw [Option.some.injEq] at h; subst h; simp only [binOp, Sem.run_bind, eq_slice w hu, Result.andThen_ok, Sem.run_pure]
    · cases h
  · split at h <;> simp at h <;> subst h <;> simp [binOp, Op.stringOp]
  · cases h
end

section
variable {W : World}
variable {P : Program}

/-! ### structs out of their parts -/
def cellsL : Value → List Value
  | .agg cs => cs.toList
  | v => [v]
theorem cellsL_eq (v : Value) : v.cells.toList = cellsL v := by cases v <;> rfl

def splice (cs : List Value) (off : Nat) (vs : List Value) : List Value := cs.take off ++ (vs ++ cs.drop (off + vs.length))

def fillL (place : Nat → Option (Nat × Nat)) (cells : List Value) : List (Nat × Value) → Option (List Value)
  | [] => some cells
  | (i, v) :: rest =>
    match place i with
    | none => none
    | some (off, size) =>
      bif Nat.beq (cellsL v).length size && Nat.ble (off + (cellsL v).length) cells.length then fillL place (splice cells off (cellsL v)) rest else none

theorem foldl_splice (vs : List Value) : ∀ (cs : List Value) (off m : Nat), off + m + vs.length ≤ cs.length →
    (vs.zipIdx m).foldl (fun (a : List Value) (x : Value × Nat) => a.set (off + x.2) x.1) cs = splice cs (off + m) vs := by
  induction vs with
  | nil => intro cs off m h; simp [splice]
  | cons v vs ih =>
    intro cs off m h
    simp only [List.length_cons] at h
    simp only [List.zipIdx_cons, List.foldl_cons]
    have := ih (cs.set (off + m) v) off (m + 1) (by simp; omega)
    rw [this]
    unfold splice
    rw [List.set_eq_take_append_cons_drop]
    have hl : off + m < cs.length := by omega
    simp only [hl, if_true]
    have h1 : (List.take (off + m) cs).length = off + m := by simp; omega
    have h2 : off + (m + 1) = (List.take (off + m) cs).length + 1 := by omega
    rw [h2, List.take_append, List.drop_append]
    simp [h1, List.take_of_length_le]
    congr 2
    · rw [show off + m + 1 + vs.length - (off + m) = vs.length + 1 by omega]
      simp [List.drop_drop]
      have : List.drop (off + m + 1 + vs.length) (List.take (off + m) cs) = [] := by
        apply List.drop_eq_nil_of_le; simp; omega
      simp [this]
      congr 1
      omega

theorem fill_toList (place : Nat → Option (Nat × Nat)) (parts : List (Nat × Value)) : ∀ (cells : Array Value) (out : List Value),
    fillL place cells.toList parts = some out → Instr.fill place cells parts = some out.toArray := by
  induction parts with
  | nil => intro cells out h; simp [fillL] at h; subst h; simp [Instr.fill]
  | cons p rest ih =>
    intro cells out h
    obtain ⟨i, v⟩ := p
    simp only [fillL] at h
    simp only [Instr.fill]
    cases hp : place i with
    | none => simp [hp] at h
    | some os =>
      obtain ⟨off, size⟩ := os
      simp only [hp] at h ⊢
      cases hb : (Nat.beq (cellsL v).length size && Nat.ble (off + (cellsL v).length) cells.toList.length) with
      | false => rw [hb] at h; cases h
      | true =>
        simp only [hb, cond_true] at h
        simp only [Bool.and_eq_true] at hb
        have e1 := Nat.eq_of_beq_eq_true hb.1
        have e2 := Nat.le_of_ble_eq_true hb.2
        have e3 : v.cells.size = (cellsL v).length := by rw [← cellsL_eq]; simp
        have e4 : ¬ (v.cells.size ≠ size ∨ off + v.cells.size > cells.size) := by
          rw [e3]; simp at e2; omega
        have e5 : (decide (v.cells.size ≠ size) || decide (off + v.cells.size > cells.size)) = false := by
          simpa using e4
        have e6 : (v.cells.zipIdx.foldl (fun cs (c, j) => cs.setIfInBounds (off + j) c) cells) = (splice cells.toList off (cellsL v)).toArray := by
          have hf := foldl_splice (cellsL v) cells.toList off 0 (by simpa using e2)
          have key : ∀ (l : List (Value × Nat)) (a : Array Value), (l.foldl (fun cs (x : Value × Nat) => cs.setIfInBounds (off + x.2) x.1) a).toList = l.foldl (fun (a : List Value) (x : Value × Nat) => a.set (off + x.2) x.1) a.toList := by
            intro l
            induction l with
            | nil => intro a; rfl
            | cons x l ih => intro a; simp only [List.foldl_cons]; rw [ih]; simp
          apply Array.ext'
          rw [← Array.foldl_toList]
          rw [key]
          rw [Array.toList_zipIdx, cellsL_eq]
          simpa using hf
        have := ih ((splice cells.toList off (cellsL v)).toArray) out (by simpa using h)
        rw [if_neg (by simpa using e4)]
        rw [e6]; exact this
end

section
variable {W : World}
variable {P : Program}

def placesL (T : Ty P) : List Field → Option (List (Nat × Nat))
  | [] => some []
  | f :: r => match T.inf f.type, placesL T r with
    | some (s, _, _), some l => some ((f.offset, s) :: l)
    | _, _ => none

theorem run_places {T : Ty P} (w : World) : ∀ (fs : List Field) (l : List (Nat × Nat)), placesL T fs = some l →
    (fs.mapM fun f => (do pure (f.offset, ← sizeOf f.type) : Sem (Nat × Nat))).run P w = .ok l w := by
  intro fs
  induction fs with
  | nil => intro l h; simp [placesL] at h; subst h; simp
  | cons f r ih =>
    intro l h
    simp only [placesL] at h
    split at h
    · rename_i s b z l' h1 h2
      simp at h; subst h
      rw [List.mapM_cons, Sem.run_bind, Sem.run_bind, run_size h1, Result.andThen_ok, Sem.run_pure, Result.andThen_ok, Sem.run_bind, ih _ h2, Result.andThen_ok, Sem.run_pure]
    · cases h

def idx {α : Type} : Nat → List α → Option α
  | _, [] => none
  | 0, a :: _ => some a
  | n + 1, _ :: r => idx n r
theorem idx_eq {α : Type} : ∀ (n : Nat) (l : List α), idx n l = l[n]?
  | _, [] => by simp [idx]
  | 0, a :: _ => by simp [idx]
  | n + 1, _ :: r => by simp [idx, idx_eq n r]

def aggT : TypeDesc → Bool
  | .struct _ | .array _ _ => true
  | _ => false

/-- a part of an aggregate -/
def partL (T : Ty P) (t : TypeId) (cs : List Value) (off : Nat) : Option Value :=
  match T.und t, T.inf t with
  | some d, some (s, _, _) => bif aggT d then some (.agg ((cs.drop off).take s).toArray) else idx off cs
  | _, _ => none

theorem run_isAgg {T : Ty P} {t : TypeId} {d : TypeDesc} (h : T.und t = some d) (w : World) : (isAgg t).run P w = .ok (aggT d) w := by
  simp [isAgg, run_und h]
  cases d <;> simp [aggT]

theorem partL_run {T : Ty P} {t : TypeId} {cs : Array Value} {off : Nat} {v : Value} (h : partL T t cs.toList off = some v) (w : World) : (part t cs off).run P w = .ok v w := by
  unfold partL at h
  split at h
  · rename_i d s b z h1 h2
    unfold part
    rw [Sem.run_bind, run_isAgg h1, Result.andThen_ok]
    cases hd : aggT d with
    | true =>
      simp only [hd, cond_true, Option.some.injEq] at h
      subst h
      simp only [if_true, Sem.run_bind, run_size h2, Result.andThen_ok, Sem.run_pure]
      congr 2
      apply Array.ext'
      simp [List.take_drop, Nat.add_comm]
    | false =>
      simp only [hd, cond_false] at h
      rw [idx_eq] at h
      have : cs[off]? = some v := by simpa using h
      simp [this]
  · cases h

/-- what an operation gives that neither reads nor writes memory -/
def pureVal (T : Ty P) (env : Env) : Op → Option Value
  | .move x => ev env x
  | .assign x => ev env x
  | .pick c a b => match ev env c, ev env a, ev env b with
    | some (.bool c), some (.bool x), some (.bool y) => some (.bool (bif c then x else y))
    | some (.bool c), some x, some y => some (bif c then x else y)
    | _, _, _ => none
  | .nilCheck x => match ev env x with
    | some (.pointer (some a)) => some (.pointer (some a))
    | some (.func (.func f) a b) => some (.func (.func f) a b)
    | _ => none
  | .binOp op t x y _ => match ev env x, ev env y with
    | some a, some b => binVal T op t a b
    | _, _ => none
  | .unOp op _ x => match op, ev env x with
    | .not, some (.bool b) => some (.bool (!b))
    | .neg, some (.int k n) => some (.int k (k.wrap (0 - n)))
    | _, _ => none
  | .convert src dst x => match T.und src, T.und dst, ev env x with
    | some _, some (.int k), some (.int _ n) => some (.int k (k.wrap n))
    | some _, some .string, some (.string s) => some (.string s)
    | _, _, _ => none
  | .extract x i => match ev env x with
    | some (.tuple vs) => idx i vs.toList
    | _ => none
  | .makeFunc fn first captured => match first.toList.mapM (ev env), captured.toList.mapM (ev env) with
    | some a, some b => some (.func fn a.toArray b.toArray)
    | _, _ => none
  | .fieldAddr s x f => match T.und s, ev env x with
    | some (.struct fs), some (.pointer (some ⟨b, o, none⟩)) => match idx f fs.toList with
      | some fd => match T.inf fd.type with
        | some (n + 1, _, _) => some (.pointer (some ⟨b, o + fd.offset, none⟩))
        | _ => none
      | none => none
    | _, _ => none
  | .field t x f => match T.und t, ev env x with
    | some (.struct fs), some (.agg cs) => match idx f fs.toList with
      | some fd => partL T fd.type cs.toList fd.offset
      | none => none
    | _, _ => none
  | .build t parts => match T.und t, T.inf t with
    | some (.struct fs), some (_, _, z) => match placesL T fs.toList, (parts.toList.mapM fun p => (ev env p.2).map fun v => (p.1, v)) with
      | some pl, some vs => match fillL (fun i => idx i pl) (cellsL z) vs with
        | some cs => some (.agg cs.toArray)
        | none => none
      | _, _ => none
    | _, _ => none
  | .call ⟨.builtin .len, args, types⟩ => match idx 0 args.toList, idx 0 types.toList with
    | some x, some t => match T.und t, ev env x with
      | some (.slice _), some (.slice _ n _) => some (.int .i64 n)
      | some .string, some (.string s) => some (.int .i64 s.size)
      | _, _ => none
    | _, _ => none
  | .call ⟨.builtin .min, ⟨[x, y]⟩, _⟩ => match ev env x, ev env y with
    | some (.int k a), some (.int _ b) => some (.int k (if b < a then b else a))
    | _, _ => none
  | .call ⟨.builtin .max, ⟨[x, y]⟩, _⟩ => match ev env x, ev env y with
    | some (.int k a), some (.int _ b) => some (.int k (if b > a then b else a))
    | _, _ => none
  | .call ⟨.builtin .min, ⟨[x, y, z]⟩, _⟩ => match ev env x, ev env y, ev env z with
    | some (.int k a), some (.int _ b), some (.int _ c) => some (.int k (if c < (if b < a then b else a) then c else (if b < a then b else a)))
    | _, _, _ => none
  | _ => none

theorem evs_eval {n : Nat} {t : Array Value} {env : Env} (hs : Slots n t env) : ∀ {l : List Operand} {vs : List Value}, l.mapM (ev env) = some vs → l.map (Act.eval ⟨t, []⟩) = vs := by
  intro l
  induction l with
  | nil => intro vs h; simp at h; simp [h]
  | cons x l ih =>
    intro vs h
    rw [List.mapM_cons] at h
    cases h1 : ev env x with
    | none => simp [h1] at h
    | some v =>
      cases h2 : l.mapM (ev env) with
      | none => simp [h1, h2] at h
      | some r =>
        simp [h1, h2] at h
        subst h
        simp [ev_eval hs h1, ih h2]

theorem evps_eval {n : Nat} {t : Array Value} {env : Env} (hs : Slots n t env) : ∀ {l : List (Nat × Operand)} {vs : List (Nat × Value)},
    (l.mapM fun p => (ev env p.2).map fun v => (p.1, v)) = some vs → (l.map fun p => (p.1, Act.eval ⟨t, []⟩ p.2)) = vs := by
  intro l
  induction l with
  | nil => intro vs h; simp at h; simp [h]
  | cons x l ih =>
    intro vs h
    rw [List.mapM_cons] at h
    cases h1 : ev env x.2 with
    | none => simp [h1] at h
    | some v =>
      cases h2 : (l.mapM fun p => (ev env p.2).map fun v => (p.1, v)) with
      | none => simp [h1, h2] at h
      | some r =>
        simp [h1, h2] at h
        subst h
        simp [ev_eval hs h1, ih h2]

theorem pureVal_run {T : Ty P} {n : Nat} {t : Array Value} {env : Env} {o : Oper} {v : Value} (hs : Slots n t env) (h : pureVal T env o.op = some v) (w : World) :
    (execOp (Act.eval ⟨t, []⟩) o).run P w = .ok (.value v) w := by
  unfold pureVal at h
  unfold execOp
  split at h <;> (try cases h)
  all_goals rename_i heq; simp only [heq]
  · rw [ev_eval hs h]; rfl
  · rw [ev_eval hs h]; rfl
  · split at h
    · rename_i h1 h2 h3
      simp at h; subst h
      rename_i c _ _
      simp only [ev_eval hs h1, ev_eval hs h2, ev_eval hs h3]
      cases c <;> simp [asBool]
    · rename_i hno hc ha hb
      simp at h; subst h
      rename_i c _ _ _
      simp only [ev_eval hs hc, ev_eval hs ha, ev_eval hs hb]
      cases c <;> simp [asBool]
    · cases h
  · split at h
    · rename_i h1; simp at h; subst h; rw [ev_eval hs h1]; rfl
    · rename_i h1; simp at h; subst h; rw [ev_eval hs h1]; rfl
    · cases h
  · split at h
    · rename_i h1 h2
      rw [ev_eval hs h1, ev_eval hs h2]
      rw [Sem.run_bind, binVal_run h w]; rfl
    · cases h
  · split at h
    · rename_i h1; simp at h; subst h; rw [ev_eval hs h1]; rfl
    · rename_i h1; rw [Option.some.injEq] at h; subst h; rw [ev_eval hs h1]; rfl
    · cases h
  · split at h
    · rename_i hsrc hdst h1
      simp at h; subst h
      rw [ev_eval hs h1]
      simp [convert, run_und hsrc, run_und hdst, Conv.intToInt]
    · rename_i hsrc hdst h1
      simp at h; subst h
      rw [ev_eval hs h1]
      simp [convert, run_und hsrc, run_und hdst]
    · cases h
  · split at h
    · rename_i h1
      rw [idx_eq] at h
      rw [ev_eval hs h1]
      simp at h
      simp [Instr.extract, h]
    · cases h
  · split at h
    · rename_i h1 h2
      simp at h; subst h
      rw [← evs_eval hs h1, ← evs_eval hs h2]
      simp only [Instr.makeFunc, Sem.run_bind, Sem.run_pure, Result.andThen_ok]
      congr 3 <;> (apply Array.ext'; simp)
    · cases h
  · split at h
    · rename_i fs b off hund h1
      split at h
      · rename_i fd hfd
        split at h
        · rename_i m x y hinf
          simp at h; subst h
          rw [ev_eval hs h1]
          rw [idx_eq] at hfd
          simp at hfd
          simp [Instr.fieldAt, run_und hund, hfd, Instr.sureAddr, fieldPlace, run_size hinf, Addr.add]
          try (intro h0; simp [h0])
        · cases h
      · cases h
    · cases h
  · split at h
    · rename_i fs cs hund h1
      split at h
      · rename_i fd hfd
        rw [ev_eval hs h1]
        rw [idx_eq] at hfd
        simp at hfd
        simp [Instr.field, run_und hund, hfd, asAgg, partL_run h]
      · cases h
    · cases h
  · split at h
    · rename_i tt parts _ _ fs s b z hund hinf
      split at h
      · rename_i pl vs hpl hvs
        split at h
        · rename_i cs hcs
          simp at h; subst h
          have h1 : cellsL z = (z.cells).toList := (cellsL_eq z).symm
          rw [h1] at hcs
          have h2 := fill_toList _ _ _ _ hcs
          have h3 := run_places w _ _ hpl
          have h4 := evps_eval hs hvs
          have h5 : ((fs.mapM fun f => (do pure (f.offset, ← sizeOf f.type) : Sem (Nat × Nat)))).run P w = .ok pl.toArray w := by
            rw [Array.mapM_eq_mapM_toList, Sem.run_map, h3]; rfl
          simp only [Instr.build, Sem.run_bind, run_zero hinf, Result.andThen_ok, run_und hund, h5]
          have h6 : (parts.map fun (x : Nat × Operand) => (x.1, Act.eval ⟨t, []⟩ x.2)).toList = vs := by rw [← h4]; simp
          have h7 : (fun i => pl.toArray[i]?) = (fun i => idx i pl) := by funext i; rw [idx_eq]; simp
          have h8 : Instr.fill (fun i => pl.toArray[i]?) z.cells ((parts.map fun (x : Nat × Operand) => (x.1, Act.eval ⟨t, []⟩ x.2)).toList) = some cs.toArray := by rw [h6, h7]; exact h2
          rw [h8]
          rfl
        · cases h
      · cases h
    · cases h
  · split at h
    · rename_i h1 h2
      split at h
      · rename_i hu hx
        simp at h; subst h
        rw [idx_eq] at h1 h2
        simp at h1 h2
        simp [resolve, invoke, builtin, Builtin.len_, h1, h2, ev_eval hs hx, run_und hu, goInt]
      · rename_i hu hx
        simp at h; subst h
        rw [idx_eq] at h1 h2
        simp at h1 h2
        simp [resolve, invoke, builtin, Builtin.len_, h1, h2, ev_eval hs hx, run_und hu, goInt]
      · cases h
    · cases h
  · split at h
    · rename_i h1 h2
      simp at h; subst h
      simp [resolve, invoke, builtin, Builtin.min_, Builtin.min2, ev_eval hs h1, ev_eval hs h2]
    · cases h
  · split at h
    · rename_i h1 h2
      simp at h; subst h
      simp [resolve, invoke, builtin, Builtin.max_, Builtin.max2, ev_eval hs h1, ev_eval hs h2]
    · cases h
  · split at h
    · rename_i h1 h2 h3
      simp at h; subst h
      simp [resolve, invoke, builtin, Builtin.min_, Builtin.min2, ev_eval hs h1, ev_eval hs h2, ev_eval hs h3]
    · cases h

section
variable {T : Ty P} {n : Nat} {Q : Exit → Act → World → Prop} {env : Env} {H : Hp} {ops : Array Oper} {i : Nat} {K : Act → World → Prop} {o : Oper}
/-- a plain operation -/
theorem at_p (T : Ty P) {d : Nat} {v : Value} (ho : ops[i]? = some o) (hw : want ops env o = some true) (hd : o.dst = some d) (hn : d < n)
    (hv : pureVal T env o.op = some v) (h : At W n K ((d, v) :: env) H) : At W n (wpOp P ops Q i K) env H :=
  at_val ho hw hd hn (fun _ w s _ => pureVal_run s hv w) h
end
end

section
variable {W : World}
variable {P : Program}

/-! ### blocks in groups -/
theorem flatten_erase : ∀ (HL : List Hp) (j : Nat) (Hj : Hp), HL[j]? = some Hj → HL.flatten.Perm (Hj ++ (HL.eraseIdx j).flatten)
  | [], j, Hj, h => by simp at h
  | A :: r, 0, Hj, h => by simp at h; subst h; simp
  | A :: r, j + 1, Hj, h => by
    simp at h
    have ih := flatten_erase r j Hj h
    simp only [List.flatten_cons, List.eraseIdx_cons_succ]
    refine (List.Perm.append_left A ih).trans ?_
    rw [← List.append_assoc, ← List.append_assoc]
    exact List.Perm.append_right _ List.perm_append_comm

theorem flatten_set : ∀ (HL : List Hp) (j : Nat) (Hj H' : Hp), HL[j]? = some Hj → (HL.set j H').flatten.Perm (H' ++ (HL.eraseIdx j).flatten)
  | [], j, Hj, H', h => by simp at h
  | A :: r, 0, Hj, H', h => by simp
  | A :: r, j + 1, Hj, H', h => by
    simp at h
    have ih := flatten_set r j Hj H' h
    simp only [List.set_cons_succ, List.flatten_cons, List.eraseIdx_cons_succ]
    refine (List.Perm.append_left A ih).trans ?_
    rw [← List.append_assoc, ← List.append_assoc]
    exact List.Perm.append_right _ List.perm_append_comm

def pick : List Nat → List Hp → List Hp
  | [], _ => []
  | j :: js, HL => match idx j HL with
    | some A => A :: pick js (HL.eraseIdx j)
    | none => []

theorem own_pick {w : World} : ∀ (js : List Nat) (HL : List Hp) (A : Hp), Own W w (A ++ HL.flatten) → Own W w (A ++ (pick js HL).flatten)
  | [], HL, A, h => by simpa [pick] using h.left
  | j :: js, HL, A, h => by
    unfold pick
    cases hj : idx j HL with
    | none => simpa using h.left
    | some B =>
      rw [idx_eq] at hj
      have h1 : Own W w (A ++ (B ++ (HL.eraseIdx j).flatten)) := h.perm (List.Perm.append_left A (flatten_erase HL j B hj))
      rw [← List.append_assoc] at h1
      have := own_pick js (HL.eraseIdx j) (A ++ B) h1
      simpa [List.append_assoc] using this

theorem own_pick0 {w : World} {HL : List Hp} (js : List Nat) (h : Own W w HL.flatten) : Own W w (pick js HL).flatten := by
  simpa using own_pick js HL [] (by simpa using h)

theorem mem_group {HL : List Hp} {j : Nat} {Hj : Hp} (h : HL[j]? = some Hj) {c : Nat × Obj} (hc : c ∈ Hj) : c ∈ HL.flatten :=
  List.mem_flatten.2 ⟨Hj, List.mem_of_getElem? h, hc⟩

/-- the heap, in groups -/
abbrev AtL (W : World) (n : Nat) (F : Act → World → Prop) (env : Env) (HL : List Hp) : Prop := At W n F env HL.flatten

variable {T : Ty P} {n : Nat} {Q : Exit → Act → World → Prop} {env : Env} {HL : List Hp} {ops : Array Oper} {i : Nat} {K : Act → World → Prop} {o : Oper}

/-- slots and groups as they are wanted: the groups' numbers, one behind the other, each in what is left -/
theorem at_to {F : Act → World → Prop} (env' : Env) (js : List Nat) (HL' : List Hp) (hs : sub env' env) (hh : pick js HL = HL') (h : AtL W n F env' HL') : AtL W n F env HL :=
  at_cut hs (fun w ow => hh ▸ own_pick0 js ow) h

/-- the head group's turn -/
theorem own_group_turn {w w' : World} {j b : Nat} {Hr : Hp} {o o' : Obj} (hj : HL[j]? = some ((b, o) :: Hr)) (ow : Own W w HL.flatten) (e : w'.heap = w.heap.setIfInBounds b o') (e1 : w'.os = w.os) (e2 : w'.tape = w.tape) (e3 : w'.output = w.output) :
    Own W w' (HL.set j ((b, o') :: Hr)).flatten := by
  have h1 := ow.perm (flatten_erase HL j _ hj)
  have h2 : Own W w' ((b, o') :: (Hr ++ (HL.eraseIdx j).flatten)) := Own.turn (by simpa using h1) e e1 e2 e3
  exact h2.perm (by simpa using (flatten_set HL j _ ((b, o') :: Hr) hj).symm)

theorem own_group_new {w : World} (o : Obj) (ow : Own W w HL.flatten) : Own W (w.alloc o) (HL ++ [[(w.heap.size, o)]]).flatten := by
  have := ow.alloc o
  refine this.perm ?_
  simp only [List.flatten_append, List.flatten_cons, List.flatten_nil, List.append_nil]
  exact (List.perm_append_comm (l₁ := [(w.heap.size, o)]) (l₂ := HL.flatten))

/-! ### loads and stores, by the cell -/
theorem run_loadCells_list' (w : World) (b off : Nat) (arr : Array Value) (E : TypeId) (fr : Nat × Nat) (hb : w.heap[b]? = some (.cells arr E fr)) :
    ∀ (m : Nat) (cs : List Value) (i : Nat) (acc : Array Value), cs.length = m → (∀ j v, cs[j]? = some v → arr[off + i + j]? = some v) →
      (loadCellsFrom ⟨b, off, none⟩ i m acc).run P w = .ok (acc ++ cs.toArray) w := by
  intro m
  induction m with
  | zero => intro cs i acc hl _; have : cs = [] := List.length_eq_zero_iff.1 hl; subst this; simp [loadCellsFrom]
  | succ m ih =>
    intro cs i acc hl hc
    cases cs with
    | nil => simp at hl
    | cons c cs =>
      have h0 := hc 0 c rfl
      have hcell : w.cell? (Addr.add ⟨b, off, none⟩ i) = some c := by
        unfold Addr.add
        split
        · rename_i hi; simp [World.cell?, hb]; simpa [hi] using h0
        · simp [World.cell?, hb]; simpa using h0
      simp only [loadCellsFrom, Sem.run_bind, run_load, hcell, Result.andThen_ok]
      rw [ih cs (i + 1) (acc.push c) (by simpa using hl) (fun j v hj => by
        have := hc (j + 1) v (by simpa using hj)
        rw [show off + (i + 1) + j = off + i + (j + 1) by omega]; exact this)]
      simp

/-- a load of one cell -/
theorem at_load (T : Ty P) {d b off : Nat} {t : TypeId} {x : Operand} {td : TypeDesc} {arr : Array Value} {E : TypeId} {fr : Nat × Nat} {v : Value}
    (ho : ops[i]? = some o) (hw : want ops env o = some true) (hd : o.dst = some d) (hn : d < n) (hop : o.op = .load t x) (hx : ev env x = some (.pointer (some ⟨b, off, none⟩)))
    (hu : T.und t = some td) (ha : aggT td = false) (hm : (b, Obj.cells arr E fr) ∈ HL.flatten) (hc : arr[off]? = some v)
    (h : AtL W n K ((d, v) :: env) HL) : AtL W n (wpOp P ops Q i K) env HL := by
  refine at_val ho hw hd hn (fun t' w s ow => ?_) h
  unfold execOp
  have hcell := ow.cell hm hc
  simp [hop, ev_eval s hx, Instr.loadAt, Instr.sureAddr, loadVar, run_isAgg hu, ha, hcell]

/-- a load of an aggregate -/
theorem at_load_agg (T : Ty P) {d b off : Nat} {t : TypeId} {x : Operand} {td : TypeDesc} {arr : Array Value} {E : TypeId} {fr : Nat × Nat} {cs : List Value} {sz by' : Nat} {z : Value}
    (ho : ops[i]? = some o) (hw : want ops env o = some true) (hd : o.dst = some d) (hn : d < n) (hop : o.op = .load t x) (hx : ev env x = some (.pointer (some ⟨b, off, none⟩)))
    (hu : T.und t = some td) (ha : aggT td = true) (hi : T.inf t = some (sz, by', z)) (hm : (b, Obj.cells arr E fr) ∈ HL.flatten)
    (hl : cs.length = sz) (hc : ∀ j v, cs[j]? = some v → arr[off + j]? = some v)
    (h : AtL W n K ((d, .agg cs.toArray) :: env) HL) : AtL W n (wpOp P ops Q i K) env HL := by
  refine at_val ho hw hd hn (fun t' w s ow => ?_) h
  unfold execOp
  have hb := ow.lookup hm
  have := run_loadCells_list' (P := P) w b off arr E fr hb sz cs 0 #[] hl (by simpa using hc)
  simp [hop, ev_eval s hx, Instr.loadAt, Instr.sureAddr, loadVar, run_isAgg hu, ha, run_size hi, loadCells, this]

/-- the cells of a block behind stores of a list, from a place on -/
def stored (arr : Array Value) (off : Nat) : List Value → Array Value
  | [] => arr
  | v :: r => stored (arr.setIfInBounds off v) (off + 1) r

theorem stored_toList : ∀ (vs : List Value) (arr : Array Value) (off : Nat), off + vs.length ≤ arr.size → stored arr off vs = (splice arr.toList off vs).toArray
  | [], arr, off, h => by simp [stored, splice]
  | v :: r, arr, off, h => by
    simp only [List.length_cons] at h
    rw [stored, stored_toList r _ _ (by simp; omega)]
    congr 1
    have := foldl_splice [v] arr.toList off 0 (by simp; omega)
    have h2 := foldl_splice (v :: r) arr.toList off 0 (by simp; omega)
    simp only [Array.toList_setIfInBounds]
    have h3 := foldl_splice r (arr.toList.set off v) off 1 (by simp; omega)
    simp only [List.zipIdx_cons, List.foldl_cons, Nat.zero_add, Nat.add_zero] at h2
    rw [h3] at h2
    exact h2

theorem run_storeCells' (T : Ty P) {H : Hp} (b : Nat) (E : TypeId) : ∀ (vs : List Value) (w : World) (arr : Array Value) (off i : Nat), Own W w ((b, .cells arr E (0, 0)) :: H) →
    off + i + vs.length ≤ arr.size → (∀ v ∈ vs, v.oneCell' = true) →
    ∃ w', (storeCells ⟨b, off, none⟩ vs i).run P w = .ok () w' ∧ Own W w' ((b, .cells (stored arr (off + i) vs) E (0, 0)) :: H)
  | [], w, arr, off, i, ow, _, _ => ⟨w, by simp [storeCells], by simpa [stored] using ow⟩
  | v :: r, w, arr, off, i, ow, hl, hv => by
    simp only [List.length_cons] at hl
    have hadd : Addr.add ⟨b, off, none⟩ i = ⟨b, off + i, none⟩ := by
      unfold Addr.add
      split
      · rename_i h; simp [h]
      · rfl
    have hcell : w.cell? ⟨b, off + i, none⟩ = some (arr[off + i]'(by omega)) := ow.cell (c := arr) (T := E) (fr := (0, 0)) (List.mem_cons_self ..) (Array.getElem?_eq_getElem (by omega))
    have hfr : w.frozen? ⟨b, off + i, none⟩ = false := ow.unfrozen (c := arr) (T := E) (List.mem_cons_self ..)
    have h1 : (store ⟨b, off + i, none⟩ v).run P w = .ok () (w.setCell ⟨b, off + i, none⟩ v) := by
      rw [run_store P w _ v _ (hv v (by simp))]
      simp [hcell, hfr]
    obtain ⟨w', hr, ow'⟩ := run_storeCells' T b E r (w.setCell ⟨b, off + i, none⟩ v) (arr.setIfInBounds (off + i) v) off (i + 1) (Own.setCell ow) (by simp; omega)
      (fun x hx => hv x (by simp [hx]))
    refine ⟨w', ?_, ?_⟩
    · simp [storeCells, hadd, h1, hr]
    · simpa [stored, Nat.add_assoc] using ow'

/-- a store into a block that stands first in its group -/
theorem at_store (T : Ty P) {b off j : Nat} {t : TypeId} {x y : Operand} {arr : Array Value} {E : TypeId} {v : Value} {sz by' : Nat} {z : Value} {Hr : Hp} {cs : List Value}
    (ho : ops[i]? = some o) (hw : want ops env o = some true) (hd : o.dst = none) (hop : o.op = .store t x y) (hx : ev env x = some (.pointer (some ⟨b, off, none⟩)))
    (hy : ev env y = some v) (hi : T.inf t = some (sz, by', z)) (hj : HL[j]? = some ((b, .cells arr E (0, 0)) :: Hr)) (hl : (cellsL v).length = sz) (hf : ∀ c ∈ cellsL v, c.oneCell' = true)
    (hb : off + sz ≤ arr.size) (hcs : splice arr.toList off (cellsL v) = cs)
    (h : AtL W n K env (HL.set j ((b, .cells cs.toArray E (0, 0)) :: Hr))) : AtL W n (wpOp P ops Q i K) env HL := by
  refine at_unit_w (β := Unit) (G := fun _ => (HL.set j ((b, .cells cs.toArray E (0, 0)) :: Hr)).flatten) ho hw hd (fun t' w s ow => ?_) (fun _ => h)
  have h1 := ow.perm (flatten_erase HL j _ hj)
  have hv : v.cells.size = sz := by rw [← hl, ← cellsL_eq]; simp
  obtain ⟨w', hr, ow'⟩ := run_storeCells' T b E (cellsL v) w arr off 0 (by simpa using h1) (by omega) hf
  refine ⟨(), w', .inl ?_, ?_⟩
  · unfold execOp
    simp [hop, ev_eval s hx, ev_eval s hy, Instr.storeAt, Instr.sureAddr, storeVar, run_size hi, hv, cellsL_eq, hr]
  · rw [Nat.add_zero, stored_toList _ _ _ (by omega), hcs] at ow'
    exact ow'.perm (by simpa using (flatten_set HL j _ ((b, .cells cs.toArray E (0, 0)) :: Hr) hj).symm)

/-- a new variable -/
theorem at_alloc (T : Ty P) {d : Nat} {t : TypeId} {sz by' : Nat} {z : Value} {cs : List Value}
    (ho : ops[i]? = some o) (hw : want ops env o = some true) (hd : o.dst = some d) (hn : d < n) (hop : o.op = .alloc t) (hi : T.inf t = some (sz, by', z)) (hz : cellsL z = cs)
    (h : ∀ b, AtL W n K ((d, .pointer (some ⟨b, 0, none⟩)) :: env) (HL ++ [[(b, Obj.cells cs.toArray t (0, 0))]])) : AtL W n (wpOp P ops Q i K) env HL := by
  refine at_val_w (V := fun b => .pointer (some ⟨b, 0, none⟩)) (G := fun b => (HL ++ [[(b, Obj.cells cs.toArray t (0, 0))]]).flatten) ho hw hd hn (fun t' w s ow => ?_) h
  refine ⟨w.heap.size, w.alloc (.cells cs.toArray t (0, 0)), ?_, own_group_new _ ow⟩
  have : z.cells = cs.toArray := by apply Array.ext'; rw [cellsL_eq, hz]
  unfold execOp
  simp [hop, Instr.alloc, run_zero hi, newVar, newRow, this]

/-- a new variable with a value -/
theorem at_box (T : Ty P) {d : Nat} {t : TypeId} {x : Operand} {v : Value} {cs : List Value}
    (ho : ops[i]? = some o) (hw : want ops env o = some true) (hd : o.dst = some d) (hn : d < n) (hop : o.op = .box t x) (hx : ev env x = some v) (hz : cellsL v = cs)
    (h : ∀ b, AtL W n K ((d, .pointer (some ⟨b, 0, none⟩)) :: env) (HL ++ [[(b, Obj.cells cs.toArray t (0, 0))]])) : AtL W n (wpOp P ops Q i K) env HL := by
  refine at_val_w (V := fun b => .pointer (some ⟨b, 0, none⟩)) (G := fun b => (HL ++ [[(b, Obj.cells cs.toArray t (0, 0))]]).flatten) ho hw hd hn (fun t' w s ow => ?_) h
  refine ⟨w.heap.size, w.alloc (.cells cs.toArray t (0, 0)), ?_, own_group_new _ ow⟩
  have : v.cells = cs.toArray := by apply Array.ext'; rw [cellsL_eq, hz]
  unfold execOp
  simp [hop, Instr.box, newVar, newRow, this, ev_eval s hx]
end

section
variable {W : World}
variable {P : Program}

/-- a kind of plain things: each so many cells -/
structure Fl (α : Type) where
  size : Nat
  enc : α → List Value
  len : ∀ x, (enc x).length = size
  plain : ∀ x, ∀ v ∈ enc x, v.oneCell' = true
  pos : 0 < size

def Fl.int (k : IntKind) : Fl Int := ⟨1, fun x => [.int k x], fun _ => rfl, fun _ v h => by simp at h; subst h; rfl, by decide⟩
def Fl.bool : Fl Bool := ⟨1, fun x => [.bool x], fun _ => rfl, fun _ v h => by simp at h; subst h; rfl, by decide⟩

def rd {α : Type} [Inhabited α] (xs : List α) (i : Int) : α := xs.getD i.toNat default
theorem rd_eq {α : Type} [Inhabited α] {xs : List α} {i : Int} (h : i.toNat < xs.length) : rd xs i = xs[i.toNat] := by
  simp [rd, h]

section
variable {α : Type} (k : Fl α)
def row (xs : List α) : List Value := (xs.map k.enc).flatten

theorem row_nil : row k [] = [] := rfl
theorem row_cons (x : α) (xs : List α) : row k (x :: xs) = k.enc x ++ row k xs := rfl
theorem row_append (xs ys : List α) : row k (xs ++ ys) = row k xs ++ row k ys := by simp [row]
theorem row_length (xs : List α) : (row k xs).length = xs.length * k.size := by
  induction xs with
  | nil => simp [row_nil]
  | cons x xs ih => simp [row_cons, ih, k.len, Nat.succ_mul, Nat.add_comm]
theorem row_plain (xs : List α) : ∀ v ∈ row k xs, v.oneCell' = true := by
  intro v hv
  simp only [row, List.mem_flatten, List.mem_map] at hv
  obtain ⟨l, ⟨x, _, rfl⟩, hv⟩ := hv
  exact k.plain x v hv
theorem row_get (xs : List α) (i j : Nat) (hi : i < xs.length) (hj : j < k.size) : (row k xs)[i * k.size + j]? = (k.enc xs[i])[j]? := by
  induction xs generalizing i with
  | nil => simp at hi
  | cons x xs ih =>
    rw [row_cons]
    cases i with
    | zero => simp; rw [List.getElem?_append_left (by rw [k.len]; exact hj)]
    | succ i =>
      rw [List.getElem?_append_right (by rw [k.len, Nat.succ_mul]; omega)]
      rw [k.len, show (i + 1) * k.size + j - k.size = i * k.size + j by rw [Nat.succ_mul]; omega]
      simpa using ih i (by simpa using hi)

/-- a slice that may be read: what it reads as, over some heap -/
def SliceR (xs : List α) (a : Option Addr) (H : Hp) : Prop :=
  xs = [] ∨ ∃ b off arr E fr, a = some ⟨b, off, none⟩ ∧ (b, Obj.cells arr E fr) ∈ H ∧ ∀ j v, (row k xs)[j]? = some v → arr[off + j]? = some v

/-- a slice that is owned -/
def SliceO (E : TypeId) (xs : List α) (a : Option Addr) (cap : Nat) (H : Hp) : Prop :=
  (a = none ∧ xs = [] ∧ cap = 0 ∧ H = []) ∨
    ∃ b pre post, a = some ⟨b, List.length pre, none⟩ ∧ H = [(b, Obj.cells (pre ++ (row k xs ++ post)).toArray E (0, 0))] ∧ xs.length ≤ cap ∧ (cap - xs.length) * k.size ≤ post.length
variable {k}

theorem SliceR.mono {xs : List α} {a : Option Addr} {H H' : Hp} (h : SliceR k xs a H) (hs : ∀ c ∈ H, c ∈ H') : SliceR k xs a H' := by
  rcases h with h | ⟨b, off, arr, E, fr, h1, h2, h3⟩
  · exact .inl h
  · exact .inr ⟨b, off, arr, E, fr, h1, hs _ h2, h3⟩

theorem SliceO.r {E : TypeId} {xs : List α} {a : Option Addr} {cap : Nat} {H : Hp} (h : SliceO k E xs a cap H) : SliceR k xs a H := by
  rcases h with ⟨_, h, _, _⟩ | ⟨b, pre, post, h1, rfl, h2, h3⟩
  · exact .inl h
  · refine .inr ⟨b, pre.length, _, E, (0, 0), h1, List.mem_cons_self .., fun j v hj => ?_⟩
    have hl := (List.getElem?_eq_some_iff.1 hj).1
    simp only [List.getElem?_toArray]
    rw [List.getElem?_append_right (by omega), Nat.add_sub_cancel_left, List.getElem?_append_left hl]
    exact hj

theorem SliceO.nil {E : TypeId} : SliceO k E ([] : List α) none 0 [] := .inl ⟨rfl, rfl, rfl, rfl⟩

theorem SliceO.cap_le {E : TypeId} {xs : List α} {a : Option Addr} {cap : Nat} {H : Hp} (h : SliceO k E xs a cap H) : xs.length ≤ cap := by
  rcases h with ⟨_, rfl, _, _⟩ | ⟨b, pre, post, h1, rfl, h2, h3⟩
  · simp
  · exact h2

theorem SliceR.addr {xs : List α} {a : Option Addr} {H : Hp} (h : SliceR k xs a H) {i : Int} (h0 : 0 ≤ i) (h1 : i < xs.length) : ∃ b off, a = some ⟨b, off, none⟩ := by
  rcases h with rfl | ⟨b, off, arr, E, fr, h1, h2, h3⟩
  · simp at h1; omega
  · exact ⟨b, off, h1⟩

/-- an element's cells -/
theorem SliceR.elem {xs : List α} {a : Option Addr} {H : Hp} (h : SliceR k xs a H) [Inhabited α] {b off : Nat} (ha : a = some ⟨b, off, none⟩) {i : Int} (h0 : 0 ≤ i) (h1 : i < xs.length) :
    ∃ arr E fr, (b, Obj.cells arr E fr) ∈ H ∧ ∀ j v, (k.enc (rd xs i))[j]? = some v → arr[off + i.toNat * k.size + j]? = some v := by
  rcases h with rfl | ⟨b', off', arr, E, fr, h2, h3, h4⟩
  · simp at h1; omega
  · rw [ha] at h2
    simp at h2
    obtain ⟨rfl, rfl⟩ := h2
    have hi : i.toNat < xs.length := by omega
    refine ⟨arr, E, fr, h3, fun j v hj => ?_⟩
    have hjl := (List.getElem?_eq_some_iff.1 hj).1
    rw [k.len] at hjl
    rw [rd_eq hi] at hj
    have := row_get k xs i.toNat j hi hjl
    rw [Nat.add_assoc]
    exact h4 _ _ (this.trans hj)
end

section rules
variable {T : Ty P} {n : Nat} {Q : Exit → Act → World → Prop} {env : Env} {HL : List Hp} {ops : Array Oper} {i : Nat} {K : Act → World → Prop} {o : Oper}

/-- the address of an element -/
theorem at_index (T : Ty P) {d m cap sz by' : Nat} {t E : TypeId} {x ix : Operand} {a : Option Addr} {kk : IntKind} {j : Int} {z : Value}
    (ho : ops[i]? = some o) (hw : want ops env o = some true) (hd : o.dst = some d) (hn : d < n) (hop : o.op = .indexAddr t x ix)
    (hx : ev env x = some (.slice a m cap)) (hix : ev env ix = some (.int kk j)) (hu : T.und t = some (.slice E)) (hi : T.inf E = some (sz, by', z))
    (ha : ∃ b off, a = some ⟨b, off, none⟩) (h0 : 0 ≤ j) (h1 : j < (m : Int))
    (h : ∀ b off, a = some ⟨b, off, none⟩ → AtL W n K ((d, .pointer (some ⟨b, off + j.toNat * sz, none⟩)) :: env) HL) : AtL W n (wpOp P ops Q i K) env HL := by
  obtain ⟨b, off, rfl⟩ := ha
  refine at_val ho hw hd hn (fun t' w s ow => ?_) (h b off rfl)
  unfold execOp
  simp only [hop, ev_eval s hx, ev_eval s hix, Instr.indexAt, asIntOf, Sem.run_bind, Sem.run_pure, Result.andThen_ok, run_und hu, Sem.run_ite, h0, h1, and_self, if_true, run_size hi]
  congr 3
  unfold Addr.add
  split
  · rename_i h; simp [h]
  · rfl

theorem at_loadx (T : Ty P) {d b off : Nat} {t : TypeId} {x : Operand} {td : TypeDesc} {v : Value}
    (ho : ops[i]? = some o) (hw : want ops env o = some true) (hd : o.dst = some d) (hn : d < n) (hop : o.op = .load t x) (hx : ev env x = some (.pointer (some ⟨b, off, none⟩)))
    (hu : T.und t = some td) (ha : aggT td = false) (hm : ∃ arr E fr, (b, Obj.cells arr E fr) ∈ HL.flatten ∧ arr[off]? = some v)
    (h : AtL W n K ((d, v) :: env) HL) : AtL W n (wpOp P ops Q i K) env HL := by
  obtain ⟨arr, E, fr, hm, hc⟩ := hm
  exact at_load T ho hw hd hn hop hx hu ha hm hc h

theorem at_loadx_agg (T : Ty P) {d b off : Nat} {t : TypeId} {x : Operand} {td : TypeDesc} {cs : List Value} {sz by' : Nat} {z : Value}
    (ho : ops[i]? = some o) (hw : want ops env o = some true) (hd : o.dst = some d) (hn : d < n) (hop : o.op = .load t x) (hx : ev env x = some (.pointer (some ⟨b, off, none⟩)))
    (hu : T.und t = some td) (ha : aggT td = true) (hi : T.inf t = some (sz, by', z)) (hm : ∃ arr E fr, (b, Obj.cells arr E fr) ∈ HL.flatten ∧ ∀ j v, cs[j]? = some v → arr[off + j]? = some v)
    (hl : cs.length = sz) (h : AtL W n K ((d, .agg cs.toArray) :: env) HL) : AtL W n (wpOp P ops Q i K) env HL := by
  obtain ⟨arr, E, fr, hm, hc⟩ := hm
  exact at_load_agg T ho hw hd hn hop hx hu ha hi hm hl hc h

variable {α : Type} [Inhabited α] {k : Fl α}
/-- an element that is read: one cell, so far in -/
theorem SliceR.at {xs : List α} {a : Option Addr} {H : Hp} (h : SliceR k xs a H) {b off : Nat} (ha : a = some ⟨b, off, none⟩) {j : Int} (h0 : 0 ≤ j) (h1 : j < xs.length) (f : Nat) {v : Value}
    (hv : idx f (k.enc (rd xs j)) = some v) : ∃ arr E fr, (b, Obj.cells arr E fr) ∈ H ∧ arr[off + j.toNat * k.size + f]? = some v := by
  obtain ⟨arr, E, fr, hm, hc⟩ := h.elem ha h0 h1
  exact ⟨arr, E, fr, hm, hc f v (by rw [← idx_eq]; exact hv)⟩

/-- a store into an element of an owned slice -/
theorem at_store_elem (T : Ty P) {b off g f : Nat} {t E : TypeId} {x y : Operand} {v : Value} {sz by' cap : Nat} {z : Value} {Hj : Hp} {xs : List α} {a : Option Addr} {j : Int} (x' : α)
    (ho : ops[i]? = some o) (hw : want ops env o = some true) (hd : o.dst = none) (hop : o.op = .store t x y) (hx : ev env x = some (.pointer (some ⟨b, off + j.toNat * k.size + f, none⟩)))
    (hy : ev env y = some v) (hi : T.inf t = some (sz, by', z)) (hj : HL[g]? = some Hj) (hs : SliceO k E xs a cap Hj) (ha : a = some ⟨b, off, none⟩) (h0 : 0 ≤ j) (h1 : j < xs.length)
    (hl : (cellsL v).length = sz) (hf : f + sz ≤ k.size) (he : k.enc x' = splice (k.enc (rd xs j)) f (cellsL v))
    (h : ∀ H', SliceO k E (xs.set j.toNat x') a cap H' → AtL W n K env (HL.set g H')) : AtL W n (wpOp P ops Q i K) env HL := by
  rcases hs with ⟨rfl, _, _, _⟩ | ⟨b', pre, post, h2, rfl, h3, h4⟩
  · cases ha
  · rw [h2] at ha
    simp at ha
    obtain ⟨rfl, rfl⟩ := ha
    have hlt : j.toNat < xs.length := by omega
    have hx1 : xs = xs.take j.toNat ++ (rd xs j :: xs.drop (j.toNat + 1)) := by
      rw [rd_eq hlt]; simp
    have hx2 : xs.set j.toNat x' = xs.take j.toNat ++ (x' :: xs.drop (j.toNat + 1)) := by
      rw [List.set_eq_take_append_cons_drop]; simp [hlt]
    have hlen : (row k (xs.take j.toNat)).length = j.toNat * k.size := by rw [row_length]; congr 1; simp; omega
    have hk1 := k.len (rd xs j)
    have hplain : ∀ c ∈ cellsL v, c.oneCell' = true := by
      intro c hc
      apply k.plain x' c
      rw [he]; unfold splice; simp [hc]
    have hcs : splice (pre ++ (row k xs ++ post)) (pre.length + j.toNat * k.size + f) (cellsL v) = pre ++ (row k (xs.set j.toNat x') ++ post) := by
      rw [hx2]
      conv => lhs; rw [hx1]
      rw [row_append, row_append, row_cons, row_cons, he]
      unfold splice
      rw [show pre.length + j.toNat * k.size + f = (pre ++ row k (xs.take j.toNat)).length + f by simp [hlen]]
      rw [show pre ++ ((row k (xs.take j.toNat) ++ (k.enc (rd xs j) ++ row k (xs.drop (j.toNat + 1)))) ++ post) = (pre ++ row k (xs.take j.toNat)) ++ (k.enc (rd xs j) ++ (row k (xs.drop (j.toNat + 1)) ++ post)) by simp]
      rw [Nat.add_assoc, List.take_length_add_append, List.drop_length_add_append]
      rw [List.take_append_of_le_length (by omega), List.drop_append_of_le_length (by omega)]
      simp
    refine at_store T (cs := pre ++ (row k (xs.set j.toNat x') ++ post)) ho hw hd hop hx hy hi hj hl hplain ?_ (by simpa using hcs) (h _ (.inr ⟨b', pre, post, h2, rfl, by simpa using h3, by simpa using h4⟩))
    · have : (row k xs).length = xs.length * k.size := row_length k xs
      have h5 : (j.toNat + 1) * k.size ≤ xs.length * k.size := Nat.mul_le_mul_right _ hlt
      rw [Nat.succ_mul] at h5
      simp [this]; omega
end rules
end

section
variable {W : World}
variable {P : Program}

theorem idx_some {α : Type} {n : Nat} {l : List α} {v : α} (h : idx n l = some v) : l[n]? = some v := by rw [← idx_eq]; exact h

theorem Own.mem_cells {w : World} {H : Hp} {b : Nat} {arr : Array Value} {E : TypeId} {fr : Nat × Nat} (h : Own W w H) (hm : (b, Obj.cells arr E fr) ∈ H) : w.heap[b]? = some (.cells arr E fr) := h.lookup hm

theorem run_first {α : Type} {k : Fl α} {ys : List α} {a : Option Addr} {H : Hp} {w : World} (hr : SliceR k ys a H) (ow : Own W w H) (m c : Nat) :
    (Builtin.firstCells k.size ys.length (.slice a m c)).run P w = .ok (row k ys).toArray w := by
  rcases hr with rfl | ⟨b, off, arr, E, fr, rfl, hm, hc⟩
  · cases a with
    | none => simp [Builtin.firstCells, row_nil]
    | some ad => simp [Builtin.firstCells, row_nil, loadCells, loadCellsFrom]
  · simp only [Builtin.firstCells, loadCells]
    have := run_loadCells_list' (P := P) w b off arr E fr (ow.lookup hm) (ys.length * k.size) (row k ys) 0 #[] (row_length k ys) (by simpa using hc)
    rw [this]; simp

theorem own_set {w' : World} {HL : List Hp} {g : Nat} {Hj H' : Hp} (hj : HL[g]? = some Hj) (h : Own W w' (H' ++ (HL.eraseIdx g).flatten)) : Own W w' (HL.set g H').flatten :=
  h.perm (flatten_set HL g Hj H' hj).symm
theorem own_get {w : World} {HL : List Hp} {g : Nat} {Hj : Hp} (hj : HL[g]? = some Hj) (h : Own W w HL.flatten) : Own W w (Hj ++ (HL.eraseIdx g).flatten) :=
  h.perm (flatten_erase HL g Hj hj)

section rules
variable {T : Ty P} {n : Nat} {Q : Exit → Act → World → Prop} {env : Env} {HL : List Hp} {ops : Array Oper} {i : Nat} {K : Act → World → Prop} {o : Oper}
variable {α : Type} {k : Fl α}

theorem zero_row {z : Value} {sz m : Nat} (hz : (cellsL z).length = sz) : (Builtin.zeroCells z.cells m).toList.length = m * sz := by
  have : z.cells.size = sz := by rw [← hz, ← cellsL_eq]; simp
  simp [Builtin.zeroCells, this]

theorem append_run (T : Ty P) {t t' ty E E' : TypeId} {xs ys : List α} {a a2 : Option Addr} {g cap cap2 sz by' : Nat} {z : Value} {Hj : Hp} {w : World}
    (hu : T.und t = some (.slice E)) (hu' : T.und t' = some (.slice E')) (hi : T.inf E = some (sz, by', z)) (hk : k.size = sz) (hz : (cellsL z).length = sz)
    (hj : HL[g]? = some Hj) (so : SliceO k E xs a cap Hj) (sr : SliceR k ys a2 HL.flatten)
    (hb : (xs.length + ys.length) * by' ≤ 140737488355328) (hb2 : xs.length + ys.length ≤ 4611686018427387904) (ow : Own W w HL.flatten) :
    ∃ a' cap' H' w', (Builtin.append_ #[t, t'] ty #[.slice a xs.length cap, .slice a2 ys.length cap2]).run P w = .ok (.slice a' (xs.length + ys.length) cap') w' ∧
      SliceO k E (xs ++ ys) a' cap' H' ∧ Own W w' (HL.set g H').flatten := by
  obtain ⟨inf, hinf, hsz, hby, hzz⟩ := T.hinf E sz by' z hi
  have hfx : ∀ w', Own W w' HL.flatten → (Builtin.firstCells sz ys.length (.slice a2 ys.length cap2)).run P w' = .ok (row k ys).toArray w' := fun w' o => by
    rw [← hk]; exact run_first (P := P) sr o ys.length cap2
  have hfo : ∀ w', Own W w' HL.flatten → (Builtin.firstCells sz xs.length (.slice a xs.length cap)).run P w' = .ok (row k xs).toArray w' := fun w' o => by
    rw [← hk]; exact run_first (P := P) (so.r.mono fun c hc => mem_group hj hc) o xs.length cap
  by_cases hcap : xs.length + ys.length ≤ cap
  · rcases so with ⟨rfl, rfl, rfl, rfl⟩ | ⟨b, pre, post, rfl, rfl, h3, h4⟩
    · have hy : ys = [] := by
        have : ys.length = 0 := by simpa using hcap
        exact List.length_eq_zero_iff.1 this
      subst hy
      refine ⟨none, 0, [], w, ?_, ?_, own_set hj (by simpa using own_get hj ow)⟩
      · have := hfx w ow
        simp [Builtin.append_, run_und hu, run_und hu', run_size hi, Builtin.lenOf]
        simp at this
        simp [this]
      · exact .inl ⟨rfl, rfl, rfl, rfl⟩
    · have hrl := row_length k ys
      have hxl := row_length k xs
      have hpl : (cap - xs.length) * k.size = (cap - (xs.length + ys.length)) * k.size + ys.length * k.size := by
        rw [← Nat.add_mul]; congr 1; omega
      have hlen : (row k ys).length ≤ post.length := by rw [hrl]; omega
      have hadd : Addr.add ⟨b, pre.length, none⟩ (xs.length * sz) = ⟨b, pre.length + xs.length * sz, none⟩ := by
        unfold Addr.add
        split
        · rename_i h; simp [h]
        · rfl
      obtain ⟨w', hr, ow'⟩ := run_storeCells' T b E (row k ys) w (pre ++ (row k xs ++ post)).toArray (pre.length + xs.length * sz) 0 (by simpa using own_get hj ow)
        (by simp [hxl, hk]; omega) (row_plain k ys)
      refine ⟨some ⟨b, pre.length, none⟩, cap, [(b, Obj.cells (pre ++ (row k (xs ++ ys) ++ post.drop (row k ys).length)).toArray E (0, 0))], w', ?_, ?_, ?_⟩
      · simp [Builtin.append_, run_und hu, run_und hu', run_size hi, Builtin.lenOf, hcap, hfx w ow, hadd, hr]
      · refine .inr ⟨b, pre, post.drop (row k ys).length, rfl, rfl, by simpa using hcap, ?_⟩
        simp only [List.length_append, List.length_drop, hrl]; omega
      · refine own_set hj ?_
        rw [Nat.add_zero, stored_toList _ _ _ (by simp [hxl, hk]; omega)] at ow'
        have e : splice (pre ++ (row k xs ++ post)) (pre.length + xs.length * sz) (row k ys) = pre ++ (row k (xs ++ ys) ++ post.drop (row k ys).length) := by
          unfold splice
          rw [Nat.add_assoc, List.take_length_add_append, List.drop_length_add_append]
          rw [show xs.length * sz = (row k xs).length by rw [hxl, hk]]
          rw [List.take_left', List.drop_length_add_append, row_append]
          · simp
          · rfl
        simpa [e] using ow'
  · have hgt : cap < xs.length + ys.length := by omega
    have hfit := growslice_fits hgt hb
    have hfit' : ¬ (281474976710656 < Builtin.nextslicecap (xs.length + ys.length) cap * by') := by omega
    have h63 : ¬ (9223372036854775807 < ((xs.length : Int) + (ys.length : Int))) := by omega
    have hfx' := hfx w.drew ow.drew
    have hfo' := hfo w.drew ow.drew
    have hnc := Question.cut
    refine ⟨some ⟨w.heap.size, 0, none⟩, grownCap w (xs.length + ys.length) cap E, [(w.heap.size, Obj.cells (row k (xs ++ ys) ++ (Builtin.zeroCells z.cells (grownCap w (xs.length + ys.length) cap E - (xs.length + ys.length))).toList).toArray E (0, 0))],
      w.drew.alloc (.cells (row k (xs ++ ys) ++ (Builtin.zeroCells z.cells (grownCap w (xs.length + ys.length) cap E - (xs.length + ys.length))).toList).toArray E), ?_, ?_, ?_⟩
    · simp [Builtin.append_, run_und hu, run_und hu', run_size hi, Builtin.lenOf, hcap, typeInfo, zeroValue, hinf, hzz, hby, hfit', h63, Question.forced]
      rw [hfo', Result.andThen_ok, hfx', Result.andThen_ok]
      have e : ∀ zc : Array Value, (row k xs).toArray ++ ((row k ys).toArray ++ zc) = (row k (xs ++ ys) ++ zc.toList).toArray := by
        intro zc; apply Array.ext'; simp [row_append]
      rw [e]
      rfl
    · refine .inr ⟨w.heap.size, [], _, rfl, rfl, ?_, ?_⟩
      · simp [grownCap, Question.cut]
      · rw [zero_row hz]; simp [hk]
    · refine own_set hj ?_
      have := (own_get hj ow).right
      have h2 := Own.alloc (.cells (row k (xs ++ ys) ++ (Builtin.zeroCells z.cells (grownCap w (xs.length + ys.length) cap E - (xs.length + ys.length))).toList).toArray E) this.drew
      exact h2

theorem run_builtin {t : Array Value} {b : Builtin} {args : Array Operand} {types : Array TypeId} (w : World) (hop : o.op = .call ⟨.builtin b, args, types⟩) :
    ∃ cs, (execOp (Act.eval ⟨t, []⟩) o).run P w = (builtin b types o.type cs (args.map (Act.eval ⟨t, []⟩))).run P w := by
  unfold execOp
  rw [hop]
  exact ⟨_, rfl⟩

theorem at_append (T : Ty P) {d g : Nat} {s x : Operand} {t t' E E' : TypeId} {xs ys : List α} {a a2 : Option Addr} {cap cap2 sz by' : Nat} {z : Value} {Hj : Hp}
    (ho : ops[i]? = some o) (hw : want ops env o = some true) (hd : o.dst = some d) (hn : d < n) (hop : o.op = .call ⟨.builtin .append, #[s, x], #[t, t']⟩)
    (hs : ev env s = some (.slice a xs.length cap)) (hx : ev env x = some (.slice a2 ys.length cap2)) (hu : T.und t = some (.slice E)) (hu' : T.und t' = some (.slice E'))
    (hi : T.inf E = some (sz, by', z)) (hk : k.size = sz) (hz : (cellsL z).length = sz) (hj : HL[g]? = some Hj) (so : SliceO k E xs a cap Hj) (sr : SliceR k ys a2 HL.flatten)
    (hb : (xs.length + ys.length) * by' ≤ 140737488355328) (hb2 : xs.length + ys.length ≤ 4611686018427387904)
    (h : ∀ a' cap' H', SliceO k E (xs ++ ys) a' cap' H' → AtL W n K ((d, .slice a' (xs ++ ys).length cap') :: env) (HL.set g H')) : AtL W n (wpOp P ops Q i K) env HL := by
  refine at_val_w (β := { p : Option Addr × Nat × Hp // SliceO k E (xs ++ ys) p.1 p.2.1 p.2.2 }) (V := fun p => .slice p.1.1 (xs ++ ys).length p.1.2.1) (G := fun p => (HL.set g p.1.2.2).flatten)
    ho hw hd hn (fun tt w sl ow => ?_) (fun p => h _ _ _ p.2)
  obtain ⟨a', cap', H', w', hr, hso, ow'⟩ := append_run (P := P) T (ty := o.type) hu hu' hi hk hz hj so sr hb hb2 ow
  refine ⟨⟨(a', cap', H'), hso⟩, w', ?_, ow'⟩
  obtain ⟨cs, hb⟩ := run_builtin (P := P) (t := tt) w hop
  rw [hb]
  simp only [List.map_toArray, List.map_cons, List.map_nil, ev_eval sl hs, ev_eval sl hx, builtin, Sem.run_bind]
  refine Eq.trans (congrArg (fun r => Result.andThen r _) hr) ?_
  simp only [Result.andThen_ok, Sem.run_pure, List.length_append]

/-- a new slice of so many zeroes -/
theorem at_makeSlice (T : Ty P) {d : Nat} {t E : TypeId} {x y : Operand} {m : Int} {kk kk' : IntKind} {sz by' : Nat} {z : Value} (x0 : α)
    (ho : ops[i]? = some o) (hw : want ops env o = some true) (hd : o.dst = some d) (hn : d < n) (hop : o.op = .makeSlice t x y) (hx : ev env x = some (.int kk m)) (hy : ev env y = some (.int kk' m))
    (hu : T.und t = some (.slice E)) (hi : T.inf E = some (sz, by', z)) (hk : k.size = sz) (hz : cellsL z = k.enc x0) (h0 : 0 ≤ m) (hm : m ≤ 4611686018427387904) (hb : by' * m ≤ 281474976710656)
    (h : ∀ a cap H', SliceO k E (List.replicate m.toNat x0) a cap H' → AtL W n K ((d, .slice a (List.replicate m.toNat x0).length cap) :: env) (HL ++ [H'])) :
    AtL W n (wpOp P ops Q i K) env HL := by
  refine at_val_w (β := { p : Option Addr × Nat × Hp // SliceO k E (List.replicate m.toNat x0) p.1 p.2.1 p.2.2 }) (V := fun p => .slice p.1.1 (List.replicate m.toNat x0).length p.1.2.1) (G := fun p => (HL ++ [p.1.2.2]).flatten)
    ho hw hd hn (fun t' w s ow => ?_) (fun p => h _ _ _ p.2)
  obtain ⟨inf, hinf, hsz, hby, hzz⟩ := T.hinf E sz by' z hi
  have hzs : z.cells.toList = k.enc x0 := by rw [cellsL_eq, hz]
  have hrow : ∀ c : Nat, (Array.range (c * sz)).map (fun i => z.cells[i % z.cells.size]!) = (row k (List.replicate c x0)).toArray := by
    intro c
    have hsz : z.cells.size = sz := by have := k.len x0; rw [← hzs] at this; simpa [hk] using this
    have hp : 0 < sz := hk ▸ k.pos
    apply Array.ext
    · simp [row_length, hk]
    · intro j h1 h2
      simp at h1
      simp only [Array.getElem_map, Array.getElem_range, List.getElem_toArray]
      have hq : j / sz < c := by rw [Nat.div_lt_iff_lt_mul hp]; exact h1
      have hr : j % sz < sz := Nat.mod_lt _ hp
      have hg := row_get k (List.replicate c x0) (j / sz) (j % sz) (by simpa using hq) (by rw [hk]; exact hr)
      rw [hk, Nat.div_add_mod' j sz] at hg
      simp only [List.getElem_replicate] at hg
      rw [hsz]
      have h3 : z.cells[j % sz]? = (k.enc x0)[j % sz]? := by rw [← hzs]; simp
      rw [← h3] at hg
      rw [List.getElem?_eq_getElem (by simpa using h2)] at hg
      rw [getElem!_pos z.cells (j % sz) (by rw [hsz]; exact hr)]
      rw [Array.getElem?_eq_getElem (by rw [hsz]; exact hr)] at hg
      exact (Option.some.inj hg).symm
  have hwr : IntKind.i64.wrap m = m := by unfold IntKind.wrap IntKind.signed IntKind.bits; simp; omega
  refine ⟨⟨(some ⟨w.heap.size, 0, none⟩, m.toNat, [(w.heap.size, .cells (row k (List.replicate m.toNat x0)).toArray E (0, 0))]), .inr ⟨w.heap.size, [], [], rfl, by simp, by simp, by simp⟩⟩,
    w.alloc (.cells (row k (List.replicate m.toNat x0)).toArray E), ?_, own_group_new _ ow⟩
  unfold execOp
  have h4 : ¬ m < 0 := by omega
  have h5 : ¬ (281474976710656 < (by' : Int) * m) := by omega
  by_cases hc : m.toNat * sz = 0
  · have hz0 : m.toNat = 0 := by
      rcases Nat.mul_eq_zero.1 hc with h | h
      · exact h
      · have := k.pos; omega
    have : m = 0 := by omega
    subst this
    simp [hop, ev_eval s hx, ev_eval s hy, Instr.makeSlice, run_und hu, asInt, asIntOf, typeInfo, hinf, hby, hwr, run_size hi, newRow, row_nil]
    have e : (Array.range 0).map (fun _ => (default : Value)) = #[] := by apply Array.ext'; simp
    rw [e]
  · simp [hop, ev_eval s hx, ev_eval s hy, Instr.makeSlice, run_und hu, asInt, asIntOf, typeInfo, hinf, hby, hwr, h4, h5, run_size hi, hc, run_zero hi, newRow, hrow]
end rules
end

section
variable {W : World}
variable {P : Program}

/-- a callee's promise: called over these blocks it returns one of these values, and leaves these blocks -/
def CallsTo (P : Program) (f : FuncId) (args : Array Value) (H : Hp) {β : Type} (V : β → Value) (G : β → Hp) : Prop :=
  ∀ W w, Own W w H → Calls P f args w fun e w' => ∃ b, e = .returned (V b) ∧ Own W w' (G b)

theorem CallsTo.imp {f : FuncId} {args : Array Value} {H H' : Hp} {β γ : Type} {V : β → Value} {G : β → Hp} {V' : γ → Value} {G' : γ → Hp} (h : CallsTo P f args H V G)
    (hh : ∀ W w, Own W w H' → Own W w H) (hg : ∀ b, ∃ c, V b = V' c ∧ ∀ W w, Own W w (G b) → Own W w (G' c)) : CallsTo P f args H' V' G' :=
  fun W w ow => (h W w (hh W w ow)).mono fun _ w' ⟨b, he, o⟩ => let ⟨c, hc, hw⟩ := hg b; ⟨c, he.trans (by rw [hc]), hw W w' o⟩

/-- the program has the function, with a body -/
structure Has (P : Program) (f : FuncId) : Prop where
  has : ∃ fn, P.funcs[f]? = some fn ∧ (fn.name == "runtime.NumGoroutine") = false ∧ fn.body.isNone = false

theorem Has.run {f : FuncId} (h : Has P f) (args : Array Value) (w : World) : (callFunc f args).run P w = .ok (.enter f args) w := by
  obtain ⟨fn, h1, h2, h3⟩ := h.has
  simp only [callFunc, Sem.run_bind, run_program, Result.andThen_ok, h1]
  simp [h2, h3]

def sel : List Nat → List Hp → List Hp × List Hp
  | [], HL => ([], HL)
  | j :: js, HL => match idx j HL with
    | some A => (A :: (sel js (HL.eraseIdx j)).1, (sel js (HL.eraseIdx j)).2)
    | none => ([], HL)

theorem sel_perm : ∀ (js : List Nat) (HL : List Hp), HL.flatten.Perm ((sel js HL).1.flatten ++ (sel js HL).2.flatten)
  | [], HL => by simp [sel]
  | j :: js, HL => by
    unfold sel
    cases hj : idx j HL with
    | none => simp
    | some A =>
      rw [idx_eq] at hj
      refine (flatten_erase HL j A hj).trans ?_
      simp only [List.flatten_cons, List.append_assoc]
      exact List.Perm.append_left A (sel_perm js (HL.eraseIdx j))

theorem sel_perm' {js : List Nat} {HL As R : List Hp} (h : sel js HL = (As, R)) : HL.flatten.Perm (As.flatten ++ R.flatten) := by
  have := sel_perm js HL; rw [h] at this; exact this

section rules
variable {T : Ty P} {n : Nat} {Q : Exit → Act → World → Prop} {env : Env} {HL : List Hp} {ops : Array Oper} {i : Nat} {K : Act → World → Prop} {o : Oper}

theorem run_call {t : Array Value} {c : Operand} {args : Array Operand} {types : Array TypeId} {f : FuncId} {first captured : Array Value} {vs as : List Value} (w : World) (s : Slots n t env)
    (hop : o.op = .call ⟨.value c, args, types⟩) (hc : ev env c = some (.func (.func f) first captured)) (ha : args.toList.mapM (ev env) = some vs) (hf : Has P f)
    (has : first.toList ++ (vs ++ captured.toList) = as) : (execOp (Act.eval ⟨t, []⟩) o).run P w = .ok (.enter f as.toArray) w := by
  have h1 : args.map (Act.eval ⟨t, []⟩) = vs.toArray := by
    rw [← evs_eval s ha]; apply Array.ext'; simp
  have h2 : first ++ vs.toArray ++ captured = as.toArray := by
    rw [← has]; apply Array.ext'; simp
  unfold execOp
  simp only [hop, resolve, ev_eval s hc, h1, Deferred.ofValue, Sem.run_bind, Sem.run_pure, Result.andThen_ok, invoke]
  rw [h2]
  exact hf.run _ w

/-- a call: the groups that it takes, by their numbers; what is left; what it lays down -/
theorem at_callf {d : Nat} {c : Operand} {args : Array Operand} {types : Array TypeId} {f : FuncId} {first captured : Array Value} {vs as : List Value} {β : Type} {V : β → Value} {B : β → List Hp} {As R : List Hp}
    (js : List Nat) (ho : ops[i]? = some o) (hw : want ops env o = some true) (hd : o.dst = some d) (hn : d < n)
    (hop : o.op = .call ⟨.value c, args, types⟩) (hc : ev env c = some (.func (.func f) first captured)) (ha : args.toList.mapM (ev env) = some vs) (hf : Has P f)
    (has : first.toList ++ (vs ++ captured.toList) = as) (hs : sel js HL = (As, R))
    (hcall : CallsTo P f as.toArray (As.flatten ++ R.flatten) V (fun b => (B b).flatten ++ R.flatten))
    (h : ∀ b, AtL W n K ((d, V b) :: env) (R ++ B b)) : AtL W n (wpOp P ops Q i K) env HL := by
  refine at_call (G := fun b => (R ++ B b).flatten) ho hw hd hn (fun t w s _ => run_call w s hop hc ha hf has) (fun w ow => ?_) h
  refine (hcall W w (ow.perm (sel_perm' hs))).mono fun e w' ⟨b, he, o'⟩ => ⟨b, he, ?_⟩
  rw [List.flatten_append]
  exact o'.perm List.perm_append_comm

theorem at_callf_none {c : Operand} {args : Array Operand} {types : Array TypeId} {f : FuncId} {first captured : Array Value} {vs as : List Value} {β : Type} {V : β → Value} {B : β → List Hp} {As R : List Hp}
    (js : List Nat) (ho : ops[i]? = some o) (hw : want ops env o = some true) (hd : o.dst = none)
    (hop : o.op = .call ⟨.value c, args, types⟩) (hc : ev env c = some (.func (.func f) first captured)) (ha : args.toList.mapM (ev env) = some vs) (hf : Has P f)
    (has : first.toList ++ (vs ++ captured.toList) = as) (hs : sel js HL = (As, R))
    (hcall : CallsTo P f as.toArray (As.flatten ++ R.flatten) V (fun b => (B b).flatten ++ R.flatten))
    (h : ∀ b, AtL W n K env (R ++ B b)) : AtL W n (wpOp P ops Q i K) env HL := by
  refine at_call_none (V := V) (G := fun b => (R ++ B b).flatten) ho hw hd (fun t w s _ => run_call w s hop hc ha hf has) (fun w ow => ?_) h
  refine (hcall W w (ow.perm (sel_perm' hs))).mono fun e w' ⟨b, he, o'⟩ => ⟨b, he, ?_⟩
  rw [List.flatten_append]
  exact o'.perm List.perm_append_comm

/-! ### regions that draw their order: what only reads -/
variable {H : Hp}
/-- each operation of the region gives one value, whatever world it is that owns these blocks -/
def AtQ (W : World) (P : Program) (n : Nat) (ops : Array Oper) (H : Hp) (l : List Oper) (F : Act → Prop) (env : Env) : Prop :=
  ∀ t, Slots n t env → wpQuiet P ops (fun w => Own W w H) F l ⟨t, []⟩

theorem at_region_q {id : Nat} (hm : P.follows .mixedOrders = true) (hB : Region.lexB .any ops = true) (h : AtQ W P n ops H ops.toList (fun a => ∀ w, Own W w H → Q .normal a w) env) :
    At W n ((Code.region id ops true).wp P Q) env H :=
  fun t w s ow => wp_region_quiet (C := fun w => Own W w H) hm hB ow.drew (h t s)

theorem atq_end {F : Act → World → Prop} (h : At W n F env H) : AtQ W P n ops H [] (fun a => ∀ w, Own W w H → F a w) env :=
  fun t s w ow => h t w s ow

theorem atq_no {d : Nat} {l : List Oper} {F : Act → Prop} (hw : want ops env o = some false) (hd : o.dst = some d) (hn : d < n)
    (h : AtQ W P n ops H l F ((d, undef) :: env)) : AtQ W P n ops H (o :: l) F env := by
  intro t s
  simp only [wpQuiet]
  have h1 : Region.wanted o (yielded ops t) = false := want_wanted s hw
  rw [if_neg (by simp [h1])]
  have := h _ (s.put (v := undef) hn)
  simpa [Act.put, hd] using this

theorem atq_val {d : Nat} {v : Value} {l : List Oper} {F : Act → Prop} (hw : want ops env o = some true) (hd : o.dst = some d) (hn : d < n)
    (hv : ∀ t w, Slots n t env → Own W w H → (execOp (Act.eval ⟨t, []⟩) o).run P w = .ok (.value v) w)
    (h : AtQ W P n ops H l F ((d, v) :: env)) : AtQ W P n ops H (o :: l) F env := by
  intro t s
  simp only [wpQuiet]
  have h1 : Region.wanted o (yielded ops t) = true := want_wanted s hw
  rw [if_pos h1]
  refine ⟨v, fun w ow => ?_, ?_⟩
  · unfold Oper.quietAt
    rw [hv t w s ow]
    exact ⟨rfl, rfl⟩
  · have := h _ (s.put (v := v) hn)
    simpa [Act.put, hd] using this

theorem atq_p (T : Ty P) {d : Nat} {v : Value} {l : List Oper} {F : Act → Prop} (hw : want ops env o = some true) (hd : o.dst = some d) (hn : d < n)
    (hv : pureVal T env o.op = some v) (h : AtQ W P n ops H l F ((d, v) :: env)) : AtQ W P n ops H (o :: l) F env :=
  atq_val hw hd hn (fun _ w s _ => pureVal_run s hv w) h

theorem atq_callf {d : Nat} {c : Operand} {args : Array Operand} {types : Array TypeId} {f : FuncId} {first captured : Array Value} {vs as : List Value} {v : Value} {l : List Oper} {F : Act → Prop}
    (hw : want ops env o = some true) (hd : o.dst = some d) (hn : d < n)
    (hop : o.op = .call ⟨.value c, args, types⟩) (hc : ev env c = some (.func (.func f) first captured)) (ha : args.toList.mapM (ev env) = some vs) (hf : Has P f)
    (has : first.toList ++ (vs ++ captured.toList) = as)
    (hcall : CallsTo P f as.toArray H (fun _ : Unit => v) (fun _ => H))
    (h : AtQ W P n ops H l F ((d, v) :: env)) : AtQ W P n ops H (o :: l) F env := by
  intro t s
  simp only [wpQuiet]
  have h1 : Region.wanted o (yielded ops t) = true := want_wanted s hw
  rw [if_pos h1]
  refine ⟨v, fun w ow => ?_, ?_⟩
  · unfold Oper.quietAt
    rw [run_call w s hop hc ha hf has]
    exact ⟨rfl, (hcall W w ow).mono fun e w' ⟨_, he, o'⟩ => ⟨he, o'⟩⟩
  · have := h _ (s.put (v := v) hn)
    simpa [Act.put, hd] using this
end rules
end

section
variable {W : World}
variable {P : Program}

def lkT {α : Type} (t : Nat) : List (Nat × α) → Option α
  | [] => none
  | e :: r => bif Nat.beq t e.1 then some e.2 else lkT t r

def AllT {α : Type} (p : Nat → α → Prop) : List (Nat × α) → Prop
  | [] => True
  | e :: r => p e.1 e.2 ∧ AllT p r

theorem lkT_all {α : Type} {p : Nat → α → Prop} : ∀ {l : List (Nat × α)} {t : Nat} {d : α}, AllT p l → lkT t l = some d → p t d
  | [], _, _, _, h => by cases h
  | e :: r, t, d, ha, h => by
    unfold lkT at h
    cases hb : Nat.beq t e.1 with
    | true => rw [hb] at h; simp at h; rw [Nat.eq_of_beq_eq_true hb, ← h]; exact ha.1
    | false => rw [hb] at h; exact lkT_all ha.2 h

def Ty.of (us : List (Nat × TypeDesc)) (is : List (Nat × (Nat × Nat × Value))) (hu : AllT (fun t d => P.underlying t = some d) us)
    (hi : AllT (fun t d => ((P.info? t).map fun i => (i.size, i.bytes, i.zero)) = some (d.1, d.2.1, some d.2.2)) is) : Ty P where
  und t := lkT t us
  inf t := lkT t is
  hund t d h := lkT_all hu h
  hinf t s b z h := by
    have := lkT_all hi h
    cases hinf : P.info? t with
    | none => simp [hinf] at this
    | some i => simp [hinf] at this; exact ⟨i, rfl, this⟩
end

section
variable {W : World}
variable {P : Program}

/-- what is asked of a panic hangs on no slot -/
def PF (Q : Exit → Act → World → Prop) : Prop := ∀ c a d v w, Q (.panic c) (Act.put a d v) w → Q (.panic c) a w
theorem pf_body {fn : Func} {R : Ending → World → Prop} : PF (bodyPost P fn R) := fun c a d v w h => by
  cases d <;> exact h
theorem pf_then {K : Act → World → Prop} {Q : Exit → Act → World → Prop} (h : PF Q) : PF (Exit.then K Q) := fun c a d v w => h c a d v w
theorem pf_block {id : Nat} {Q : Exit → Act → World → Prop} (h : PF Q) : PF (Exit.inBlock id Q) := fun c a d v w => h c a d v w

/-- in a region that draws its order: the blocks H0 stay as they are throughout -/
def AtH (W : World) (P : Program) (n : Nat) (ops : Array Oper) (Q : Exit → Act → World → Prop) (H0 : Hp) (fuel : Nat) (listed : Array Bool) (env : Env) (H : Hp) : Prop :=
  ∀ t w, Slots n t env → Own W w H → wpAnyH P .any ops Q (fun w => Own W w H0) fuel listed ⟨t, []⟩ w

variable {T : Ty P} {n : Nat} {Q : Exit → Act → World → Prop} {env : Env} {H H0 : Hp} {ops : Array Oper} {i : Nat} {o : Oper} {fuel : Nat} {listed : Array Bool}

theorem at_region_h (H0 : Hp) {id : Nat} (hm : P.follows .mixedOrders = true) (h : AtH W P n ops Q H0 ops.size (Array.replicate ops.size false) env H) :
    At W n ((Code.region id ops true).wp P Q) env H :=
  fun t w s ow => wp_region_held hm (h t _ s ow.drew)

theorem ath_take {d : Nat} {v : Value} (hpf : PF Q) (hS : ∀ w, Own W w H → Own W w H0) (hs : Region.noSelect ops = true) (hf : Region.free .any ops listed i = true) (hr : (Region.ready .any ops listed).contains i = true)
    (ho : ops[i]? = some o) (hw : want ops env o = some true) (hd : o.dst = some d) (hn : d < n)
    (hv : ∀ t w, Slots n t env → Own W w H0 → (execOp (Act.eval ⟨t, []⟩) o).run P w = .ok (.value v) w)
    (h : AtH W P n ops Q H0 fuel (listed.setIfInBounds i true) ((d, v) :: env) H) : AtH W P n ops Q H0 (fuel + 1) listed env H := by
  intro t w s ow
  refine wpAnyH_take (v := v) ho hs hf hr (fun c a w' => hpf c a o.dst v w') (.inl ⟨want_wanted s hw, fun w' hw' => hv t w' s hw'⟩) (hS w ow) ?_
  have := h _ w (s.put (v := v) hn) ow
  simpa [Act.put, hd] using this

theorem ath_no {d : Nat} (hpf : PF Q) (hS : ∀ w, Own W w H → Own W w H0) (hs : Region.noSelect ops = true) (hf : Region.free .any ops listed i = true) (hr : (Region.ready .any ops listed).contains i = true)
    (ho : ops[i]? = some o) (hw : want ops env o = some false) (hd : o.dst = some d) (hn : d < n)
    (h : AtH W P n ops Q H0 fuel (listed.setIfInBounds i true) ((d, undef) :: env) H) : AtH W P n ops Q H0 (fuel + 1) listed env H := by
  intro t w s ow
  refine wpAnyH_take (v := undef) ho hs hf hr (fun c a w' => hpf c a o.dst undef w') (.inr ⟨want_wanted s hw, rfl⟩) (hS w ow) ?_
  have := h _ w (s.put (v := undef) hn) ow
  simpa [Act.put, hd] using this

theorem ath_p (T : Ty P) {d : Nat} {v : Value} (hpf : PF Q) (hS : ∀ w, Own W w H → Own W w H0) (hs : Region.noSelect ops = true) (hf : Region.free .any ops listed i = true) (hr : (Region.ready .any ops listed).contains i = true)
    (ho : ops[i]? = some o) (hw : want ops env o = some true) (hd : o.dst = some d) (hn : d < n) (hv : pureVal T env o.op = some v)
    (h : AtH W P n ops Q H0 fuel (listed.setIfInBounds i true) ((d, v) :: env) H) : AtH W P n ops Q H0 (fuel + 1) listed env H :=
  ath_take hpf hS hs hf hr ho hw hd hn (fun _ w s _ => pureVal_run s hv w) h

/-- one alone may come up -/
theorem ath_only (hr : Region.ready .any ops listed = [i])
    (h : At W n (wpOp P ops Q i (fun a' w' => Own W w' H0 ∧ wpAnyH P .any ops Q (fun w => Own W w H0) fuel (listed.setIfInBounds i true) a' w')) env H) : AtH W P n ops Q H0 (fuel + 1) listed env H := by
  intro t w s ow
  exact wpAnyH_all hr (by simp) fun j hj => by
    simp at hj; subst hj; exact h t w s ow

theorem ath_two {j : Nat} (hr : Region.ready .any ops listed = [i, j])
    (h1 : At W n (wpOp P ops Q i (fun a' w' => Own W w' H0 ∧ wpAnyH P .any ops Q (fun w => Own W w H0) fuel (listed.setIfInBounds i true) a' w')) env H)
    (h2 : At W n (wpOp P ops Q j (fun a' w' => Own W w' H0 ∧ wpAnyH P .any ops Q (fun w => Own W w H0) fuel (listed.setIfInBounds j true) a' w')) env H) : AtH W P n ops Q H0 (fuel + 1) listed env H := by
  intro t w s ow
  exact wpAnyH_all hr (by simp) fun k hk => by
    simp at hk; rcases hk with rfl | rfl
    · exact h1 t w s ow
    · exact h2 t w s ow

theorem ath_next (hS : ∀ w, Own W w H → Own W w H0) (h : AtH W P n ops Q H0 fuel listed env H) :
    At W n (fun a' w' => Own W w' H0 ∧ wpAnyH P .any ops Q (fun w => Own W w H0) fuel listed a' w') env H := by
  intro t w s ow
  exact ⟨hS w ow, h t w s ow⟩

theorem ath_done (hr : Region.ready .any ops listed = []) (h : At W n (Q .normal) env H) : AtH W P n ops Q H0 fuel listed env H :=
  fun t w s ow => wpAnyH_done hr (h t w s ow) fuel
end

section
variable {W : World}
variable {P : Program}
section rules
variable {T : Ty P} {n : Nat} {Q : Exit → Act → World → Prop} {env : Env} {H : Hp} {ops : Array Oper} {i : Nat} {rest : List Nat}

def stepP (T : Ty P) (n : Nat) (ops : Array Oper) (env : Env) (i : Nat) : Option (Nat × Value) :=
  match ops[i]? with
  | none => none
  | some o => match want ops env o, o.dst with
    | some true, some d => bif Nat.blt d n then (match pureVal T env o.op with | some v => some (d, v) | none => none) else none
    | some false, some d => bif Nat.blt d n then some (d, undef) else none
    | _, _ => none

theorem at_s (T : Ty P) {e : Nat × Value} (hs : stepP T n ops env i = some e) (h : At W n (wpOps P ops Q rest) (e :: env) H) : At W n (wpOps P ops Q (i :: rest)) env H := by
  refine at_cons ?_
  unfold stepP at hs
  split at hs
  · cases hs
  · rename_i o ho
    split at hs
    · rename_i d hw hd
      cases hb : Nat.blt d n with
      | false => simp [hb] at hs
      | true =>
        simp only [hb, cond_true] at hs
        split at hs
        · rename_i v hv
          simp at hs; subst hs
          exact at_p T ho hw hd (by simpa using hb) hv h
        · cases hs
    · rename_i d hw hd
      cases hb : Nat.blt d n with
      | false => simp [hb] at hs
      | true =>
        simp [hb] at hs; subst hs
        exact at_no ho hw hd (by simpa using hb) h
    · cases hs

def runP (T : Ty P) (n : Nat) (ops : Array Oper) : List Nat → Env → Option Env
  | [], env => some env
  | i :: r, env => match stepP T n ops env i with
    | some e => runP T n ops r (e :: env)
    | none => none

/-- a run of plain operations -/
theorem at_run (T : Ty P) (l1 : List Nat) {l2 : List Nat} {env' : Env} (hr : runP T n ops l1 env = some env') (h : At W n (wpOps P ops Q l2) env' H) : At W n (wpOps P ops Q (l1 ++ l2)) env H := by
  induction l1 generalizing env with
  | nil => simp [runP] at hr; subst hr; exact h
  | cons i r ih =>
    simp only [runP] at hr
    split at hr
    · rename_i e he
      exact at_s T he (ih hr)
    · cases hr

theorem at_app {l1 l2 : List Nat} {K : Act → World → Prop} (hK : ∀ a w, K a w → wpOps P ops Q l2 a w) : ∀ (env : Env), At W n (l1.foldr (fun i K => wpOp P ops Q i K) K) env H → At W n (wpOps P ops Q (l1 ++ l2)) env H := by
  intro env h t w s ow
  have := h t w s ow
  clear h s ow
  revert this
  generalize (⟨t, []⟩ : Act) = a
  induction l1 generalizing a w with
  | nil => exact fun h => hK _ _ h
  | cons i r ih =>
    intro h
    show wpOps P ops Q (i :: (r ++ l2)) a w
    rw [wpOps_cons]
    exact wpOp_mono (fun a w h => ih w a h) h

/-- one operation, the slots alone -/
theorem step_slots (T : Ty P) {e : Nat × Value} (hs : stepP T n ops env i = some e) {K : Act → World → Prop} (h : At W n K (e :: env) H) : At W n (wpOp P ops Q i K) env H := by
  unfold stepP at hs
  split at hs
  · cases hs
  · rename_i o ho
    split at hs
    · rename_i d hw hd
      cases hb : Nat.blt d n with
      | false => simp [hb] at hs
      | true =>
        simp only [hb, cond_true] at hs
        split at hs
        · rename_i v hv
          simp at hs; subst hs
          exact at_p T ho hw hd (by simpa using hb) hv h
        · cases hs
    · rename_i d hw hd
      cases hb : Nat.blt d n with
      | false => simp [hb] at hs
      | true =>
        simp [hb] at hs; subst hs
        exact at_no ho hw hd (by simpa using hb) h
    · cases hs

theorem run_slots (T : Ty P) (l : List Nat) {env' : Env} {K : Act → World → Prop} (hr : runP T n ops l env = some env') (h : At W n K env' H) : At W n (l.foldr (fun i K => wpOp P ops Q i K) K) env H := by
  induction l generalizing env with
  | nil => simp [runP] at hr; subst hr; exact h
  | cons i r ih =>
    simp only [runP] at hr
    split at hr
    · rename_i e he
      exact step_slots T he (ih hr)
    · cases hr

/-- nothing that is known is lost -/
def keeps (env : Env) : List (Nat × Value) → Prop
  | [] => True
  | e :: r => lk e.1 env = none ∧ keeps env r

/-- a fact by cases of a slot's truth -/
theorem at_case {s : Nat} {c : Bool} {F : Act → World → Prop} (hs : lk s env = some (.bool c)) (ht : c = true → At W n F ((s, .bool true) :: env) H) (hf : c = false → At W n F ((s, .bool false) :: env) H) : At W n F env H := by
  intro t w sl ow
  have key : ∀ b, c = b → Slots n t ((s, .bool b) :: env) := fun b hb => ⟨sl.1, fun k v hk => by
    simp only [lk] at hk
    by_cases h : k = s
    · subst h
      have : Nat.beq k k = true := by simp
      rw [this] at hk; simp at hk
      rw [← hk, ← hb]; exact sl.2 k _ hs
    · rw [beq_ff h] at hk; exact sl.2 k v hk⟩
  cases hc : c
  · exact hf hc t w (key _ hc) ow
  · exact ht hc t w (key _ hc) ow

/-- two ways through some operations that meet again -/
theorem at_join {l1 l2 : List Nat} {s : Nat} {c : Bool} (env' : Env) (hs : lk s env = some (.bool c))
    (ht : c = true → At W n (l1.foldr (fun i K => wpOp P ops Q i K) (fun a w => ∃ t, a = ⟨t, []⟩ ∧ Slots n t env' ∧ Own W w H)) ((s, .bool true) :: env) H)
    (hf : c = false → At W n (l1.foldr (fun i K => wpOp P ops Q i K) (fun a w => ∃ t, a = ⟨t, []⟩ ∧ Slots n t env' ∧ Own W w H)) ((s, .bool false) :: env) H)
    (h : At W n (wpOps P ops Q l2) env' H) : At W n (wpOps P ops Q (l1 ++ l2)) env H :=
  at_case hs
    (fun hc => at_app (fun _ _ ⟨t, e, sl, ow⟩ => e ▸ h t _ sl ow) _ (ht hc))
    (fun hc => at_app (fun _ _ ⟨t, e, sl, ow⟩ => e ▸ h t _ sl ow) _ (hf hc))

theorem at_meet {env' : Env} (hs : sub env' env) : At W n (fun a w => ∃ t, a = ⟨t, []⟩ ∧ Slots n t env' ∧ Own W w H) env H :=
  fun t _ sl ow => ⟨t, rfl, sl.sub hs, ow⟩

/-- a group of plain operations, guarded by a slot, and what is chosen behind it: what the choice gives in either case -/
theorem at_grp (T : Ty P) (l1 : List Nat) {l2 : List Nat} {s : Nat} {c : Bool} {e1 e2 : Env} (env' : Env) (hs : lk s env = some (.bool c))
    (h1 : runP T n ops l1 ((s, .bool true) :: env) = some e1) (h2 : runP T n ops l1 ((s, .bool false) :: env) = some e2) (k1 : c = true → sub env' e1) (k2 : c = false → sub env' e2)
    (h : At W n (wpOps P ops Q l2) env' H) : At W n (wpOps P ops Q (l1 ++ l2)) env H :=
  at_join env' hs (fun hc => run_slots T l1 h1 (at_meet (k1 hc))) (fun hc => run_slots T l1 h2 (at_meet (k2 hc))) h
end rules
end

section
variable {W : World}
variable {P : Program}
abbrev w64 (x : Int) : Int := IntKind.i64.wrap x
abbrev wu8 (x : Int) : Int := IntKind.u8.wrap x
abbrev wu32 (x : Int) : Int := IntKind.u32.wrap x
abbrev wu64 (x : Int) : Int := IntKind.u64.wrap x

/-- rounds: more than any loop of a program may go -/
@[irreducible] def fuel : Nat := 18446744073709551616

theorem chk_e {c : Prop} [Decidable c] {α : Type} {x : Option α} {r : α} (h : (if c then x else none) = some r) : c ∧ x = some r := by
  split at h
  · exact ⟨‹_›, h⟩
  · cases h
theorem if_t {c : Prop} [Decidable c] {α : Type} {x y r : α} (hc : c) (h : (if c then x else y) = r) : x = r := by rw [if_pos hc] at h; exact h
theorem if_f {c : Prop} [Decidable c] {α : Type} {x y r : α} (hc : ¬ c) (h : (if c then x else y) = r) : y = r := by rw [if_neg hc] at h; exact h
theorem bind_e {α β : Type} {x : Option α} {f : α → Option β} {r : β} (h : x.bind f = some r) : ∃ v, x = some v ∧ f v = some r := Option.bind_eq_some_iff.1 h
theorem bf {b : Bool} (h : b = false) : ¬ b = true := by simp [h]

section rules
variable {T : Ty P} {n : Nat} {Q : Exit → Act → World → Prop} {env : Env} {H : Hp} {K : Act → World → Prop}

theorem at_xt {id : Nat} (h : At W n (Q (.exit id)) env H) : At W n (Exit.then K Q (.exit id)) env H := h
theorem at_rt (h : At W n (Q .ret) env H) : At W n (Exit.then K Q .ret) env H := h
theorem at_rb {id : Nat} (h : At W n (Q .ret) env H) : At W n (Exit.inBlock id Q .ret) env H := h
theorem at_nb {id : Nat} (h : At W n (Q .normal) env H) : At W n (Exit.inBlock id Q .normal) env H := h
theorem at_xb {id : Nat} (h : At W n (Q .normal) env H) : At W n (Exit.inBlock id Q (.exit id)) env H := fun t w s o => by
  have := h t w s o
  simpa [Exit.inBlock] using this
theorem at_xn {id id' : Nat} (hne : Nat.beq id' id = false) (h : At W n (Q (.exit id')) env H) : At W n (Exit.inBlock id Q (.exit id')) env H := fun t w s o => by
  have := h t w s o
  have hn : ¬ id' = id := fun e => by subst e; simp at hne
  simpa [Exit.inBlock, hn] using this

/-- ways that meet: the states in which they do -/
def Mid {σ : Type} (W : World) (n : Nat) (I : σ → Prop) (E : σ → Env) (G : σ → List Hp) : Act → World → Prop := fun a w =>
  ∃ s, I s ∧ ∃ t, a = ⟨t, []⟩ ∧ Slots n t (E s) ∧ Own W w (G s).flatten

theorem at_mid {HL : List Hp} {σ : Type} {I : σ → Prop} {E : σ → Env} {G : σ → List Hp} (s : σ) (js : List Nat) (hi : I s) (hs : sub (E s) env) (hh : pick js HL = G s) : AtL W n (Mid W n I E G) env HL :=
  fun t w sl o => ⟨s, hi, t, rfl, sl.sub hs, hh ▸ own_pick0 js o⟩

theorem at_seq_mid {x y : Code} {σ : Type} (I : σ → Prop) (E : σ → Env) (G : σ → List Hp) (h1 : At W n (x.wp P (Exit.then (Mid W n I E G) Q)) env H)
    (h2 : ∀ s, I s → AtL W n (y.wp P Q) (E s) (G s)) : At W n ((Code.seq x y).wp P Q) env H := by
  refine at_seq (h1.mono fun a w h => wp_mono h fun e a w h => ?_)
  cases e with
  | normal =>
    obtain ⟨s, hi, t, rfl, sl, o⟩ := h
    exact h2 s hi t w sl o
  | _ => exact h

/-- a loop over groups -/
theorem at_loopL {c : Code} {HL : List Hp} {σ : Type} (I : σ → Prop) (E : σ → Env) (G : σ → List Hp) (m : σ → Nat) (s0 : σ) (js : List Nat) (hi : I s0) (hs : sub (E s0) env) (hh : pick js HL = G s0)
    (round : ∀ s, I s → AtL W n (c.wp P (Exit.then (Round W n I E (fun s => (G s).flatten) m s) Q)) (E s) (G s)) : AtL W n ((Code.loop c).wp P Q) env HL :=
  at_loop I E (fun s => (G s).flatten) m s0 hi hs (fun _ o => hh ▸ own_pick0 js o) round

theorem at_roundL {HL : List Hp} {σ : Type} {I : σ → Prop} {E : σ → Env} {G : σ → List Hp} {m : σ → Nat} {s : σ} (s' : σ) (js : List Nat) (hi : I s') (hm : m s' < m s) (hs : sub (E s') env) (hh : pick js HL = G s') :
    AtL W n (Round W n I E (fun s => (G s).flatten) m s) env HL :=
  at_round s' hi hm hs (fun _ o => hh ▸ own_pick0 js o)

/-! ### what a function returns -/
inductive Res (T : Ty P) (env : Env) (H : Hp) : List ResultVar → List Value → Prop
  | nil : Res T env H [] []
  | tmp {t : Nat} {v : Value} {rs : List ResultVar} {vs : List Value} (h : lk t env = some v) (r : Res T env H rs vs) : Res T env H (.tmp t :: rs) (v :: vs)
  | cell {a b off t : Nat} {td : TypeDesc} {arr : Array Value} {E : TypeId} {fr : Nat × Nat} {v : Value} {rs : List ResultVar} {vs : List Value} (h : lk a env = some (.pointer (some ⟨b, off, none⟩)))
      (hu : T.und t = some td) (ha : aggT td = false) (hm : (b, Obj.cells arr E fr) ∈ H) (hc : arr[off]? = some v) (r : Res T env H rs vs) : Res T env H (.cell a t :: rs) (v :: vs)
  | agg {a b off t : Nat} {td : TypeDesc} {arr : Array Value} {E : TypeId} {fr : Nat × Nat} {cs : List Value} {sz by' : Nat} {z : Value} {rs : List ResultVar} {vs : List Value} (h : lk a env = some (.pointer (some ⟨b, off, none⟩)))
      (hu : T.und t = some td) (ha : aggT td = true) (hi : T.inf t = some (sz, by', z)) (hm : (b, Obj.cells arr E fr) ∈ H) (hl : cs.length = sz) (hc : ∀ j v, cs[j]? = some v → arr[off + j]? = some v)
      (r : Res T env H rs vs) : Res T env H (.cell a t :: rs) (.agg cs.toArray :: vs)

theorem run_mapM_cons {α β : Type} {f : α → Sem β} {x : α} {l : List α} {v : β} {vs : List β} {w : World} (h1 : (f x).run P w = .ok v w) (h2 : (l.mapM f).run P w = .ok vs w) :
    ((x :: l).mapM f).run P w = .ok (v :: vs) w := by
  rw [List.mapM_cons, Sem.run_bind, h1, Result.andThen_ok, Sem.run_bind, h2]; rfl

theorem Res.run {t : Array Value} {w : World} {rs : List ResultVar} {vs : List Value} (h : Res T env H rs vs) (s : Slots n t env) (o : Own W w H) :
    (rs.mapM fun (r : ResultVar) => (match r with
      | .tmp k => pure (t.getD k undef)
      | .cell a ty => do loadVar ty (← asAddr (t.getD a undef)) : Sem Value)).run P w = .ok vs w := by
  have hget : ∀ k v, lk k env = some v → t.getD k undef = v := fun k v hk => by
    have := s.2 k v hk; simp [Array.getD_eq_getD_getElem?, this]
  induction h with
  | nil => rfl
  | tmp h r ih => exact run_mapM_cons (by simp only [hget _ _ h]; rfl) ih
  | cell h hu ha hm hc r ih =>
    have hcell := o.cell hm hc
    refine run_mapM_cons ?_ ih
    simp only [hget _ _ h, asAddr, loadVar, Sem.run_bind, Sem.run_pure, Result.andThen_ok, run_isAgg hu, ha, Bool.false_eq_true, if_false, run_load, hcell]
  | agg h hu ha hi hm hl hc r ih =>
    rename_i cs sz _ _ _ _
    have h1 := run_loadCells_list' (P := P) w _ _ _ _ _ (o.lookup hm) sz cs 0 #[] hl (by simpa using hc)
    refine run_mapM_cons ?_ ih
    simp only [hget _ _ h, asAddr, loadVar, Sem.run_bind, Sem.run_pure, Result.andThen_ok, run_isAgg hu, ha, if_true, run_size hi, loadCells, h1]
    simp

def resV : List Value → Value
  | [v] => v
  | vs => .tuple vs.toArray

theorem at_post {fn : Func} {R : Ending → World → Prop} {HL : List Hp} {rs : List ResultVar} {vs : List Value} (hf : fn.results.toList = rs) (hr : Res T env HL.flatten rs vs)
    (h : ∀ w, Own W w HL.flatten → R (.returned (resV vs)) w) : AtL W n (bodyPost P fn R .ret) env HL := by
  intro t w s o
  refine ⟨rfl, resV vs, ?_, h w o⟩
  unfold results
  have h1 := hr.run (P := P) (w := w) s o
  rw [← hf] at h1
  simp only [Sem.run_bind]
  rw [Array.mapM_eq_mapM_toList, Sem.run_map]
  refine Eq.trans (congrArg (fun r => Result.andThen (Result.andThen r _) _) h1) ?_
  simp only [Result.andThen_ok, Sem.run_pure]
  congr 1
  match vs with
  | [] => simp [resV]
  | [v] => simp [resV]
  | v :: u :: r => simp [resV]

theorem at_post_n {fn : Func} {R : Ending → World → Prop} (h : At W n (bodyPost P fn R .ret) env H) : At W n (bodyPost P fn R .normal) env H := h
end rules
end

section
variable {W : World}
variable {P : Program}

/-- in every world with these slots and blocks the operation gives this, and leaves the world as it is -/
def Gives (W : World) (P : Program) (n : Nat) (env : Env) (H : Hp) (o : Oper) (v : Value) : Prop :=
  ∀ t w, Slots n t env → Own W w H → (execOp (Act.eval ⟨t, []⟩) o).run P w = .ok (.value v) w

/-- the operation is wanted; it, and its slot -/
def slot (n : Nat) (ops : Array Oper) (env : Env) (i : Nat) : Option (Oper × Nat) :=
  match ops[i]? with
  | none => none
  | some o => match want ops env o, o.dst with
    | some true, some d => bif Nat.blt d n then some (o, d) else none
    | _, _ => none

theorem slot_spec {n : Nat} {ops : Array Oper} {env : Env} {i : Nat} {o : Oper} {d : Nat} (h : slot n ops env i = some (o, d)) :
    ops[i]? = some o ∧ want ops env o = some true ∧ o.dst = some d ∧ d < n := by
  unfold slot at h
  split at h
  · cases h
  · rename_i o' ho
    split at h
    · rename_i d' hw hd
      cases hb : Nat.blt d' n with
      | false => simp [hb] at h
      | true =>
        simp only [hb, cond_true, Option.some.injEq, Prod.mk.injEq] at h
        obtain ⟨rfl, rfl⟩ := h
        exact ⟨ho, hw, hd, by simpa using hb⟩
    · cases h

section rules
variable {T : Ty P} {n : Nat} {Q : Exit → Act → World → Prop} {env : Env} {H H0 : Hp} {K : Act → World → Prop} {ops : Array Oper} {i d : Nat} {o : Oper} {v : Value} {rest : List Nat}

theorem at_g (hs : slot n ops env i = some (o, d)) (hv : Gives W P n env H o v) (h : At W n K ((d, v) :: env) H) : At W n (wpOp P ops Q i K) env H :=
  let ⟨ho, hw, hd, hn⟩ := slot_spec hs
  at_val ho hw hd hn hv h
theorem at_v (hs : slot n ops env i = some (o, d)) (hv : Gives W P n env H o v) (h : At W n (wpOps P ops Q rest) ((d, v) :: env) H) : At W n (wpOps P ops Q (i :: rest)) env H :=
  at_cons (at_g hs hv h)

theorem atq_v {l : List Oper} {F : Act → Prop} (hw : want ops env o = some true) (hd : o.dst = some d) (hn : Nat.blt d n = true) (hv : Gives W P n env H o v)
    (h : AtQ W P n ops H l F ((d, v) :: env)) : AtQ W P n ops H (o :: l) F env := atq_val hw hd (by simpa using hn) hv h

/-- a plain operation of a region whose order is drawn -/
def stepO (T : Ty P) (n : Nat) (ops : Array Oper) (env : Env) (o : Oper) : Option (Nat × Value) :=
  match want ops env o, o.dst with
  | some true, some d => bif Nat.blt d n then (match pureVal T env o.op with | some v => some (d, v) | none => none) else none
  | some false, some d => bif Nat.blt d n then some (d, undef) else none
  | _, _ => none

theorem atq_s (T : Ty P) {e : Nat × Value} {l : List Oper} {F : Act → Prop} (hs : stepO T n ops env o = some e) (h : AtQ W P n ops H l F (e :: env)) : AtQ W P n ops H (o :: l) F env := by
  unfold stepO at hs
  split at hs
  · rename_i d hw hd
    cases hb : Nat.blt d n with
    | false => simp [hb] at hs
    | true =>
      simp only [hb, cond_true] at hs
      split at hs
      · rename_i v hv
        simp at hs; subst hs
        exact atq_p T hw hd (by simpa using hb) hv h
      · cases hs
  · rename_i d hw hd
    cases hb : Nat.blt d n with
    | false => simp [hb] at hs
    | true =>
      simp [hb] at hs; subst hs
      exact atq_no hw hd (by simpa using hb) h
  · cases hs

theorem slots_case {t : Array Value} {s : Nat} {c b : Bool} (sl : Slots n t env) (hs : lk s env = some (.bool c)) (hb : c = b) : Slots n t ((s, .bool b) :: env) :=
  ⟨sl.1, fun k v hk => by
    simp only [lk] at hk
    by_cases h : k = s
    · subst h
      have : Nat.beq k k = true := by simp
      rw [this] at hk; simp at hk
      rw [← hk, ← hb]; exact sl.2 k _ hs
    · rw [beq_ff h] at hk; exact sl.2 k v hk⟩

theorem atq_case {s : Nat} {c : Bool} {l : List Oper} {F : Act → Prop} (hs : lk s env = some (.bool c)) (ht : c = true → AtQ W P n ops H l F ((s, .bool true) :: env)) (hf : c = false → AtQ W P n ops H l F ((s, .bool false) :: env)) : AtQ W P n ops H l F env := by
  intro t sl
  cases hc : c
  · exact hf hc t (slots_case sl hs hc)
  · exact ht hc t (slots_case sl hs hc)

theorem atq_sub {l : List Oper} {F : Act → Prop} (env' : Env) (hs : sub env' env) (h : AtQ W P n ops H l F env') : AtQ W P n ops H l F env :=
  fun t sl => h t (sl.sub hs)

/-! ### what operations give that read -/
theorem g_load (T : Ty P) {b off t : Nat} {x : Operand} {td : TypeDesc} (hop : o.op = .load t x) (hx : ev env x = some (.pointer (some ⟨b, off, none⟩)))
    (hu : T.und t = some td) (ha : aggT td = false) (hm : ∃ arr E fr, (b, Obj.cells arr E fr) ∈ H ∧ arr[off]? = some v) : Gives W P n env H o v := by
  intro t' w s ow
  obtain ⟨arr, E, fr, hm, hc⟩ := hm
  unfold execOp
  have hcell := ow.cell hm hc
  simp [hop, ev_eval s hx, Instr.loadAt, Instr.sureAddr, loadVar, run_isAgg hu, ha, hcell]

theorem g_loadA (T : Ty P) {b off t : Nat} {x : Operand} {td : TypeDesc} {cs : List Value} {sz by' : Nat} {z : Value} (hop : o.op = .load t x) (hx : ev env x = some (.pointer (some ⟨b, off, none⟩)))
    (hu : T.und t = some td) (ha : aggT td = true) (hi : T.inf t = some (sz, by', z)) (hl : cs.length = sz) (hm : ∃ arr E fr, (b, Obj.cells arr E fr) ∈ H ∧ ∀ j v, cs[j]? = some v → arr[off + j]? = some v) :
    Gives W P n env H o (.agg cs.toArray) := by
  intro t' w s ow
  obtain ⟨arr, E, fr, hm, hc⟩ := hm
  unfold execOp
  have hb := ow.lookup hm
  have := run_loadCells_list' (P := P) w b off arr E fr hb sz cs 0 #[] hl (by simpa using hc)
  simp [hop, ev_eval s hx, Instr.loadAt, Instr.sureAddr, loadVar, run_isAgg hu, ha, run_size hi, loadCells, this]

theorem g_index (T : Ty P) {m cap sz by' b off : Nat} {t E : TypeId} {x ix : Operand} {a : Option Addr} {kk : IntKind} {j : Int} {z : Value} (hop : o.op = .indexAddr t x ix)
    (hx : ev env x = some (.slice a m cap)) (hix : ev env ix = some (.int kk j)) (hu : T.und t = some (.slice E)) (hi : T.inf E = some (sz, by', z))
    (ha : a = some ⟨b, off, none⟩) (h0 : 0 ≤ j) (h1 : j < (m : Int)) : Gives W P n env H o (.pointer (some ⟨b, off + j.toNat * sz, none⟩)) := by
  intro t' w s ow
  subst ha
  unfold execOp
  simp only [hop, ev_eval s hx, ev_eval s hix, Instr.indexAt, asIntOf, Sem.run_bind, Sem.run_pure, Result.andThen_ok, run_und hu, Sem.run_ite, h0, h1, and_self, if_true, run_size hi]
  congr 3
  unfold Addr.add
  split
  · rename_i h; simp [h]
  · rfl

/-- a division by what is not 0 -/
theorem g_quo {t yt : TypeId} {x y : Operand} {k : IntKind} {a b : Int} (hop : o.op = .binOp .quo t x y yt) (hx : ev env x = some (.int k a)) (hy : ev env y = some (.int k b)) (hb : ¬ b = 0) :
    Gives W P n env H o (.int k (k.wrap (a.tdiv b))) := by
  intro t' w s ow
  unfold execOp
  simp only [hop, ev_eval s hx, ev_eval s hy]
  simp [eqGuard, binOp, Op.intDiv, hb]
theorem g_rem {t yt : TypeId} {x y : Operand} {k : IntKind} {a b : Int} (hop : o.op = .binOp .rem t x y yt) (hx : ev env x = some (.int k a)) (hy : ev env y = some (.int k b)) (hb : ¬ b = 0) :
    Gives W P n env H o (.int k (a.tmod b)) := by
  intro t' w s ow
  unfold execOp
  simp only [hop, ev_eval s hx, ev_eval s hy]
  simp [eqGuard, binOp, Op.intDiv, hb]

/-- a block of the group: its cells -/
theorem in_var {HL : List Hp} {j b : Nat} {arr : Array Value} {E : TypeId} {fr : Nat × Nat} {Hr : Hp} {off : Nat} (hj : idx j HL = some ((b, .cells arr E fr) :: Hr)) {v : Value} (hv : idx off arr.toList = some v) :
    ∃ arr E fr, (b, Obj.cells arr E fr) ∈ HL.flatten ∧ arr[off]? = some v :=
  ⟨arr, E, fr, mem_group (by rw [← idx_eq]; exact hj) (List.mem_cons_self ..), by rw [idx_eq] at hv; simpa using hv⟩
theorem in_varA {HL : List Hp} {j b : Nat} {arr : Array Value} {E : TypeId} {fr : Nat × Nat} {Hr : Hp} {off : Nat} {cs : List Value} (hj : idx j HL = some ((b, .cells arr E fr) :: Hr)) (hv : (arr.toList.drop off).take cs.length = cs) :
    ∃ arr E fr, (b, Obj.cells arr E fr) ∈ HL.flatten ∧ ∀ j v, cs[j]? = some v → arr[off + j]? = some v :=
  ⟨arr, E, fr, mem_group (by rw [← idx_eq]; exact hj) (List.mem_cons_self ..), fun j v h => by
    rw [← hv] at h
    have hl := (List.getElem?_eq_some_iff.1 h).1
    rw [List.getElem?_take_of_lt (by simp at hl; omega), List.getElem?_drop] at h
    simpa using h⟩
theorem in_mem {H : Hp} {b : Nat} {arr : Array Value} {E : TypeId} {fr : Nat × Nat} {off : Nat} (hm : (b, Obj.cells arr E fr) ∈ H) {v : Value} (hv : idx off arr.toList = some v) :
    ∃ arr E fr, (b, Obj.cells arr E fr) ∈ H ∧ arr[off]? = some v :=
  ⟨arr, E, fr, hm, by rw [idx_eq] at hv; simpa using hv⟩

variable {α : Type} [Inhabited α] {k : Fl α}
theorem in_elem {xs : List α} {a : Option Addr} (h : SliceR k xs a H) {b off : Nat} (ha : a = some ⟨b, off, none⟩) {j : Int} (h0 : 0 ≤ j) (h1 : j < (xs.length : Int)) {cs : List Value}
    (hc : k.enc (rd xs j) = cs) : ∃ arr E fr, (b, Obj.cells arr E fr) ∈ H ∧ ∀ i v, cs[i]? = some v → arr[off + j.toNat * k.size + i]? = some v := by
  obtain ⟨arr, E, fr, hm, h2⟩ := h.elem ha h0 h1
  exact ⟨arr, E, fr, hm, fun i v hi => h2 i v (by rw [hc]; exact hi)⟩
end rules
section groups
variable {α : Type} {k : Fl α}
theorem own_of {HL : List Hp} {j : Nat} {Hj : Hp} {xs : List α} {a : Option Addr} {cap : Nat} {E : TypeId} (h : SliceO k E xs a cap Hj) (hj : idx j HL = some Hj) : SliceR k xs a HL.flatten :=
  h.r.mono fun _ hc => mem_group (by rw [← idx_eq]; exact hj) hc
theorem ro_of {HL : List Hp} {j : Nat} {Hj : Hp} {xs : List α} {a : Option Addr} (h : SliceR k xs a Hj) (hj : idx j HL = some Hj) : SliceR k xs a HL.flatten :=
  h.mono fun _ hc => mem_group (by rw [← idx_eq]; exact hj) hc

theorem own_to {w : World} {HL HL' : List Hp} (js : List Nat) (h : pick js HL = HL') (o : Own W w HL.flatten) : Own W w HL'.flatten := h ▸ own_pick0 js o

theorem at_addnil {n : Nat} {F : Act → World → Prop} {env : Env} {HL : List Hp} (h : AtL W n F env (HL ++ [[]])) : AtL W n F env HL :=
  at_heap (fun w o => by simpa using o) h

/-- a callee's promise, in groups -/
def CallsL (P : Program) (f : FuncId) (args : List Value) (HL : List Hp) {β : Type} (V : β → Value) (G : β → List Hp) : Prop :=
  CallsTo P f args.toArray HL.flatten V (fun b => (G b).flatten)

theorem calls_atL {P : Program} {f : FuncId} {fn : Func} {c : Code} {args : List Value} {β : Type} {V : β → Value} {G : β → List Hp} {HL : List Hp} (env : Env)
    (hf : P.funcs[f]? = some fn) (hb : fn.body = some c) (hn : Nat.ble args.length fn.ntmps = true) (hs : sub env (args.zipIdx.map fun x => (x.2, x.1)))
    (h : ∀ W, AtL W fn.ntmps (c.wp P (bodyPost P fn fun e w' => ∃ b, e = .returned (V b) ∧ Own W w' (G b).flatten)) env HL) : CallsL P f args HL V G :=
  fun W w ow => calls_at env hf hb (by simpa using hn) (by simpa using hs) (h W) w ow

section call
variable {P : Program} {n : Nat} {Q : Exit → Act → World → Prop} {env : Env} {K : Act → World → Prop} {ops : Array Oper} {i : Nat} {o : Oper} {rest : List Nat} {HL : List Hp}
/-- a call: its operation, its slot -/
theorem at_c {d : Nat} {c : Operand} {args : Array Operand} {types : Array TypeId} {f : FuncId} {first captured : Array Value} {vs as : List Value} {β : Type} {V : β → Value} {B : β → List Hp} {As R : List Hp}
    (js : List Nat) (hs : slot n ops env i = some (o, d)) (hop : o.op = .call ⟨.value c, args, types⟩) (hc : ev env c = some (.func (.func f) first captured)) (ha : args.toList.mapM (ev env) = some vs) (hf : Has P f)
    (has : first.toList ++ (vs ++ captured.toList) = as) (hsel : sel js HL = (As, R)) (hcall : CallsL P f as (As ++ [R.flatten]) V (fun b => B b ++ [R.flatten]))
    (h : ∀ b, AtL W n K ((d, V b) :: env) (R ++ B b)) : AtL W n (wpOp P ops Q i K) env HL :=
  let ⟨ho, hw, hd, hn⟩ := slot_spec hs
  at_callf js ho hw hd hn hop hc ha hf has hsel (hcall.imp (fun _ w o => by simpa using o) (fun b => ⟨b, rfl, fun _ w o => by simpa using o⟩)) h
theorem at_cn {c : Operand} {args : Array Operand} {types : Array TypeId} {f : FuncId} {first captured : Array Value} {vs as : List Value} {β : Type} {V : β → Value} {B : β → List Hp} {As R : List Hp}
    (js : List Nat) (ho : ops[i]? = some o) (hw : want ops env o = some true) (hd : o.dst = none) (hop : o.op = .call ⟨.value c, args, types⟩) (hc : ev env c = some (.func (.func f) first captured)) (ha : args.toList.mapM (ev env) = some vs) (hf : Has P f)
    (has : first.toList ++ (vs ++ captured.toList) = as) (hsel : sel js HL = (As, R)) (hcall : CallsL P f as (As ++ [R.flatten]) V (fun b => B b ++ [R.flatten]))
    (h : ∀ b, AtL W n K env (R ++ B b)) : AtL W n (wpOp P ops Q i K) env HL :=
  at_callf_none js ho hw hd hop hc ha hf has hsel (hcall.imp (fun _ w o => by simpa using o) (fun b => ⟨b, rfl, fun _ w o => by simpa using o⟩)) h
theorem atq_c {d : Nat} {c : Operand} {args : Array Operand} {types : Array TypeId} {f : FuncId} {first captured : Array Value} {vs as : List Value} {v : Value} {l : List Oper} {F : Act → Prop}
    (hw : want ops env o = some true) (hd : o.dst = some d) (hn : Nat.blt d n = true) (hop : o.op = .call ⟨.value c, args, types⟩) (hc : ev env c = some (.func (.func f) first captured)) (ha : args.toList.mapM (ev env) = some vs) (hf : Has P f)
    (has : first.toList ++ (vs ++ captured.toList) = as) (hcall : CallsL P f as [HL.flatten] (fun _ : Unit => v) (fun _ => [HL.flatten]))
    (h : AtQ W P n ops HL.flatten l F ((d, v) :: env)) : AtQ W P n ops HL.flatten (o :: l) F env :=
  atq_callf hw hd (by simpa using hn) hop hc ha hf has (hcall.imp (fun _ w o => by simpa using o) (fun b => ⟨b, rfl, fun _ w o => by simpa using o⟩)) h
end call
end groups
end

section
variable {W : World}
variable {P : Program}

/-- an operation without a slot, wanted -/
def slot0 (ops : Array Oper) (env : Env) (i : Nat) : Option Oper :=
  match ops[i]? with
  | none => none
  | some o => match want ops env o, o.dst with
    | some true, none => some o
    | _, _ => none
theorem slot0_spec {ops : Array Oper} {env : Env} {i : Nat} {o : Oper} (h : slot0 ops env i = some o) : ops[i]? = some o ∧ want ops env o = some true ∧ o.dst = none := by
  unfold slot0 at h
  split at h
  · cases h
  · rename_i o' ho
    split at h
    · rename_i hw hd
      simp only [Option.some.injEq] at h
      subst h
      exact ⟨ho, hw, hd⟩
    · cases h

section rules
variable {T : Ty P} {n : Nat} {Q : Exit → Act → World → Prop} {env : Env} {HL : List Hp} {K : Act → World → Prop} {ops : Array Oper} {i d : Nat} {o : Oper} {rest : List Nat}

/-- a store into a variable -/
theorem at_st (T : Ty P) {b off t : Nat} {x y : Operand} {arr : Array Value} {E : TypeId} {v : Value} {sz by' : Nat} {z : Value} {Hr : Hp} (j : Nat) (cs : List Value)
    (hs : slot0 ops env i = some o) (hop : o.op = .store t x y) (hx : ev env x = some (.pointer (some ⟨b, off, none⟩)))
    (hy : ev env y = some v) (hi : T.inf t = some (sz, by', z)) (hj : idx j HL = some ((b, .cells arr E (0, 0)) :: Hr)) (hl : Nat.beq (cellsL v).length sz = true) (hf : (cellsL v).all Value.oneCell' = true)
    (hb : Nat.ble (off + sz) arr.size = true) (hcs : splice arr.toList off (cellsL v) = cs)
    (h : AtL W n K env (HL.set j ((b, .cells cs.toArray E (0, 0)) :: Hr))) : AtL W n (wpOp P ops Q i K) env HL :=
  let ⟨ho, hw, hd⟩ := slot0_spec hs
  at_store T ho hw hd hop hx hy hi (by rw [← idx_eq]; exact hj) (Nat.eq_of_beq_eq_true hl) (fun c hc => List.all_eq_true.1 hf c hc) (Nat.le_of_ble_eq_true hb) hcs h

theorem at_al (T : Ty P) {t : Nat} {sz by' : Nat} {z : Value} (cs : List Value) (hs : slot n ops env i = some (o, d)) (hop : o.op = .alloc t) (hi : T.inf t = some (sz, by', z)) (hz : cellsL z = cs)
    (h : ∀ b, AtL W n K ((d, .pointer (some ⟨b, 0, none⟩)) :: env) (HL ++ [[(b, Obj.cells cs.toArray t (0, 0))]])) : AtL W n (wpOp P ops Q i K) env HL :=
  let ⟨ho, hw, hd, hn⟩ := slot_spec hs
  at_alloc T ho hw hd hn hop hi hz h
theorem at_bx (T : Ty P) {t : Nat} {x : Operand} {v : Value} (cs : List Value) (hs : slot n ops env i = some (o, d)) (hop : o.op = .box t x) (hx : ev env x = some v) (hz : cellsL v = cs)
    (h : ∀ b, AtL W n K ((d, .pointer (some ⟨b, 0, none⟩)) :: env) (HL ++ [[(b, Obj.cells cs.toArray t (0, 0))]])) : AtL W n (wpOp P ops Q i K) env HL :=
  let ⟨ho, hw, hd, hn⟩ := slot_spec hs
  at_box T ho hw hd hn hop hx hz h

variable {α : Type} {k : Fl α}
theorem ap_b {m l c : Nat} (h : m + l ≤ 1099511627776) (hc : Nat.ble c 128 = true) : (m + l) * c ≤ 140737488355328 := by
  have := Nat.le_of_ble_eq_true hc
  have h2 : (m + l) * c ≤ 1099511627776 * 128 := Nat.mul_le_mul h this
  omega

/-- append, to an owned slice -/
theorem at_ap (T : Ty P) {g : Nat} {s x : Operand} {t t' E E' : TypeId} {xs ys : List α} {a a2 : Option Addr} {cap cap2 sz by' : Nat} {z : Value} {Hj : Hp}
    (hsl : slot n ops env i = some (o, d)) (hop : o.op = .call ⟨.builtin .append, #[s, x], #[t, t']⟩)
    (hs : ev env s = some (.slice a xs.length cap)) (hx : ev env x = some (.slice a2 ys.length cap2)) (hu : T.und t = some (.slice E)) (hu' : T.und t' = some (.slice E'))
    (hi : T.inf E = some (sz, by', z)) (hk : k.size = sz) (hz : (cellsL z).length = sz) (hj : idx g HL = some Hj) (so : SliceO k E xs a cap Hj) (sr : SliceR k ys a2 HL.flatten)
    (hb : xs.length + ys.length ≤ 1099511627776) (hby : Nat.ble by' 128 = true)
    (h : ∀ a' cap' H', SliceO k E (xs ++ ys) a' cap' H' → AtL W n K ((d, .slice a' (xs ++ ys).length cap') :: env) (HL.set g H')) : AtL W n (wpOp P ops Q i K) env HL :=
  let ⟨ho, hw, hd, hn⟩ := slot_spec hsl
  at_append T ho hw hd hn hop hs hx hu hu' hi hk hz (by rw [← idx_eq]; exact hj) so sr (ap_b hb hby) (by omega) h

theorem at_mk (T : Ty P) {t E : TypeId} {x y : Operand} {m : Int} {kk kk' : IntKind} {sz by' : Nat} {z : Value} (x0 : α)
    (hs : slot n ops env i = some (o, d)) (hop : o.op = .makeSlice t x y) (hx : ev env x = some (.int kk m)) (hy : ev env y = some (.int kk' m))
    (hu : T.und t = some (.slice E)) (hi : T.inf E = some (sz, by', z)) (hk : k.size = sz) (hz : cellsL z = k.enc x0) (h0 : 0 ≤ m ∧ m ≤ 1099511627776) (hby : Nat.ble by' 128 = true)
    (h : ∀ a cap H', SliceO k E (List.replicate m.toNat x0) a cap H' → AtL W n K ((d, .slice a (List.replicate m.toNat x0).length cap) :: env) (HL ++ [H'])) : AtL W n (wpOp P ops Q i K) env HL :=
  let ⟨ho, hw, hd, hn⟩ := slot_spec hs
  at_makeSlice T x0 ho hw hd hn hop hx hy hu hi hk hz h0.1 (by omega) (by
    have h1 := Nat.le_of_ble_eq_true hby
    have h2 : (by' : Int) * m ≤ 128 * 1099511627776 := by
      have h3 : (by' : Int) ≤ 128 := by omega
      exact Int.mul_le_mul h3 h0.2 h0.1 (by omega)
    omega) h

/-- a slice written out -/
theorem run_buildSlice {T : Ty P} {t E sz by' len : Nat} {z : Value} {vs : List (Nat × Value)} {cs : List Value} {w : World} (hu : T.und t = some (.slice E)) (hi : T.inf E = some (sz, by', z)) (hz : (cellsL z).length = sz)
    (hn : Nat.ble (len * sz) 16777216 = true) (hf : fillL (fun i => some (i * sz, sz)) ((List.range (len * sz)).map fun i => ((cellsL z)[i % sz]?).getD default) vs = some cs) :
    (Instr.buildSlice t len vs.toArray).run P w = .ok (.slice (some ⟨w.heap.size, 0, none⟩) len len) (w.alloc (.cells cs.toArray E)) := by
  have hn' := Nat.le_of_ble_eq_true hn
  have hzs : z.cells.size = sz := by rw [← hz, ← cellsL_eq]; simp
  have hfill : ∀ zr : Array Value, (len * sz = 0 → zr = #[]) → (len * sz ≠ 0 → zr = z.cells) →
      Instr.fill (fun i => some (i * sz, sz)) ((Array.range (len * sz)).map (zr[· % zr.size]!)) vs = some cs.toArray := by
    intro zr h0 h1
    apply fill_toList
    rw [← hf]
    congr 1
    simp only [Array.toList_map, Array.toList_range]
    apply List.map_congr_left
    intro j hj
    have hj' : j < len * sz := by simpa using hj
    have hzr := h1 (by omega)
    subst hzr
    have hp : 0 < sz := by
      rcases Nat.eq_zero_or_pos sz with h | h
      · rw [h] at hj'; omega
      · exact h
    rw [hzs, ← cellsL_eq]
    have hlt : j % sz < z.cells.size := by rw [hzs]; exact Nat.mod_lt _ hp
    rw [getElem!_pos z.cells (j % sz) hlt]
    simp [hlt]
  by_cases h0 : len * sz = 0
  · have := hfill #[] (fun _ => rfl) (fun h => absurd h0 h)
    simp [Instr.buildSlice, run_und hu, run_size hi, h0] at this ⊢
    simp [this, newRow]
  · have := hfill z.cells (fun h => absurd h h0) (fun _ => rfl)
    have hgt : ¬ (16777216 < len * sz) := by omega
    simp [Instr.buildSlice, run_und hu, run_size hi, h0, run_zero hi, hgt, this, newRow]

theorem at_bs (T : Ty P) {t E sz by' len : Nat} {z : Value} {parts : Array (Nat × Operand)} {vs : List (Nat × Value)} (ys : List α)
    (hsl : slot n ops env i = some (o, d)) (hop : o.op = .buildSlice t len parts) (hu : T.und t = some (.slice E)) (hi : T.inf E = some (sz, by', z)) (hz : (cellsL z).length = sz)
    (hn : Nat.ble (len * sz) 16777216 = true) (hp : (parts.toList.mapM fun p => (ev env p.2).map fun v => (p.1, v)) = some vs)
    (hf : fillL (fun i => some (i * sz, sz)) ((List.range (len * sz)).map fun i => ((cellsL z)[i % sz]?).getD default) vs = some (row k ys)) (hl : len = ys.length)
    (h : ∀ a H', SliceO k E ys a ys.length H' → AtL W n K ((d, .slice a ys.length ys.length) :: env) (HL ++ [H'])) : AtL W n (wpOp P ops Q i K) env HL := by
  subst hl
  obtain ⟨ho, hw, hd, hnn⟩ := slot_spec hsl
  refine at_val_w (β := { p : Option Addr × Hp // SliceO k E ys p.1 ys.length p.2 }) (V := fun p => .slice p.1.1 ys.length ys.length) (G := fun p => (HL ++ [p.1.2]).flatten)
    ho hw hd hnn (fun t' w s ow => ?_) (fun p => h _ _ p.2)
  refine ⟨⟨(some ⟨w.heap.size, 0, none⟩, [(w.heap.size, Obj.cells (row k ys).toArray E)]), .inr ⟨w.heap.size, [], [], rfl, by simp, by simp, by simp⟩⟩, w.alloc (.cells (row k ys).toArray E), ?_, own_group_new _ ow⟩
  have hr := run_buildSlice (P := P) (w := w) hu hi hz hn hf
  have hparts : (parts.map fun (x : Nat × Operand) => (x.1, Act.eval ⟨t', []⟩ x.2)) = vs.toArray := by
    rw [← evps_eval s hp]; apply Array.ext'; simp
  unfold execOp
  simp only [hop, hparts, Sem.run_bind, hr, Result.andThen_ok, Sem.run_pure]

/-- a part of a slice -/
def subA (a : Option Addr) (cap lo sz : Nat) : Option Addr := if cap = lo then a else a.map (·.add (lo * sz))
def sub' (xs : List α) (lo hi : Int) : List α := (xs.drop lo.toNat).take (hi.toNat - lo.toNat)
theorem sub_length {xs : List α} {lo hi : Int} (h : 0 ≤ lo ∧ lo ≤ hi ∧ hi ≤ (xs.length : Int)) : (sub' xs lo hi).length = hi.toNat - lo.toNat := by
  simp [sub']; omega
theorem sub_r {xs : List α} {a : Option Addr} {H : Hp} {cap : Nat} (hr : SliceR k xs a H) {lo hi : Int} (h : 0 ≤ lo ∧ lo ≤ hi ∧ hi ≤ (xs.length : Int)) (hc : xs.length ≤ cap) : SliceR k (sub' xs lo hi) (subA a cap lo.toNat k.size) H := by
  rcases hr with rfl | ⟨b, off, arr, E, fr, rfl, hm, hh⟩
  · left; simp [sub']
  · by_cases he : lo.toNat = hi.toNat
    · left; unfold sub'; rw [he]; simp
    · have hne : cap ≠ lo.toNat := by omega
      right
      refine ⟨b, off + lo.toNat * k.size, arr, E, fr, ?_, hm, fun j v hj => ?_⟩
      · simp only [subA, hne, if_false, Option.map_some, Addr.add]
        split
        · rename_i h0; simp [h0]
        · rfl
      · have hx : xs = xs.take lo.toNat ++ (sub' xs lo hi ++ xs.drop hi.toNat) := by
          unfold sub'
          have : xs.drop hi.toNat = (xs.drop lo.toNat).drop (hi.toNat - lo.toNat) := by rw [List.drop_drop]; congr 1; omega
          rw [this, List.take_append_drop, List.take_append_drop]
        have h1 : (row k xs)[lo.toNat * k.size + j]? = some v := by
          rw [hx, row_append, row_append]
          have hl : (row k (xs.take lo.toNat)).length = lo.toNat * k.size := by rw [row_length]; congr 1; simp; omega
          rw [List.getElem?_append_right (by omega), hl, Nat.add_sub_cancel_left, List.getElem?_append_left (List.getElem?_eq_some_iff.1 hj).1]
          exact hj
        rw [Nat.add_assoc]
        exact hh _ _ h1

/-- what a slice expression's bounds are -/
def loV (env : Env) : Option Operand → Option Int
  | none => some 0
  | some x => match ev env x with
    | some (.int _ j) => some j
    | _ => none
def hiV (env : Env) (m : Nat) : Option Operand → Option Int
  | none => some m
  | some x => match ev env x with
    | some (.int _ j) => some j
    | _ => none

theorem run_sliceBound {y : Nat} {code : BoundsCode} {kk : IntKind} {j : Int} (h0 : 0 ≤ j) (h1 : j ≤ (y : Int)) (w : World) : (Instr.sliceBound (.int kk j) y code).run P w = .ok j.toNat w := by
  simp [Instr.sliceBound, asIntOf, h0, h1]

theorem g_sub (T : Ty P) {H : Hp} {t E sz by' cap : Nat} {z : Value} {x : Operand} {lo hi : Option Operand} {a : Option Addr} {xs : List α} {l h : Int} (hop : o.op = .slice t x lo hi none) (hx : ev env x = some (.slice a xs.length cap))
    (hu : T.und t = some (.slice E)) (hi' : T.inf E = some (sz, by', z)) (hlo : loV env lo = some l) (hhi : hiV env xs.length hi = some h) (hb : 0 ≤ l ∧ l ≤ h ∧ h ≤ (xs.length : Int)) (hc : xs.length ≤ cap) :
    Gives W P n env H o (.slice (subA a cap l.toNat sz) (sub' xs l h).length (cap - l.toNat)) := by
  intro t' w s ow
  have e1 : (Instr.sliceBounds true xs.length cap (lo.map (Act.eval ⟨t', []⟩)) (hi.map (Act.eval ⟨t', []⟩)) none).run P w = .ok (l.toNat, h.toNat, cap) w := by
    unfold Instr.sliceBounds
    cases hi with
    | none =>
      simp only [hiV, Option.some.injEq] at hhi
      cases lo with
      | none =>
        simp only [loV, Option.some.injEq] at hlo
        subst hlo; subst hhi
        simp
      | some y =>
        simp only [loV] at hlo
        split at hlo
        · rename_i kk j hy
          simp at hlo; subst hlo; subst hhi
          simp [ev_eval s hy, run_sliceBound hb.1 hb.2.1]
        · cases hlo
    | some y' =>
      simp only [hiV] at hhi
      split at hhi
      · rename_i kk' j' hy'
        simp at hhi; subst hhi
        have hb3 : j' ≤ (cap : Int) := by omega
        have hb2 : 0 ≤ j' := by omega
        cases lo with
        | none =>
          simp only [loV, Option.some.injEq] at hlo
          subst hlo
          simp [ev_eval s hy', run_sliceBound hb2 hb3]
        | some y =>
          simp only [loV] at hlo
          split at hlo
          · rename_i kk j hy
            simp at hlo; subst hlo
            have : j ≤ (j'.toNat : Int) := by omega
            simp [ev_eval s hy', run_sliceBound hb2 hb3, ev_eval s hy, run_sliceBound hb.1 this]
          · cases hlo
      · cases hhi
  have e2 : (Instr.slice t (.slice a xs.length cap) (lo.map (Act.eval ⟨t', []⟩)) (hi.map (Act.eval ⟨t', []⟩)) none).run P w = .ok (.slice (subA a cap l.toNat sz) (sub' xs l h).length (cap - l.toNat)) w := by
    unfold Instr.slice
    simp only [Sem.run_bind, run_und hu, Result.andThen_ok]
    simp only [Sem.run_bind, e1, Result.andThen_ok, run_size hi', Sem.run_pure, sub_length hb]
    rfl
  unfold execOp
  simp only [hop, ev_eval s hx, Option.map_none]
  unfold Instr.sliceAt
  simp only [Sem.run_bind, run_und hu, Result.andThen_ok]
  rw [e2]; rfl

theorem Res.aggv {T : Ty P} {j a b off t : Nat} {td : TypeDesc} {arr : Array Value} {E : TypeId} {fr : Nat × Nat} {sz by' : Nat} {z : Value} {rs : List ResultVar} {vs : List Value} {Hr : Hp} (cs : List Value) (h : lk a env = some (.pointer (some ⟨b, off, none⟩)))
    (hu : T.und t = some td) (ha : aggT td = true) (hi : T.inf t = some (sz, by', z)) (hj : idx j HL = some ((b, .cells arr E fr) :: Hr)) (hl : Nat.beq cs.length sz = true) (hv : (arr.toList.drop off).take cs.length = cs)
    (r : Res T env HL.flatten rs vs) : Res T env HL.flatten (.cell a t :: rs) (.agg cs.toArray :: vs) :=
  .agg h hu ha hi (mem_group (by rw [← idx_eq]; exact hj) (List.mem_cons_self ..)) (Nat.eq_of_beq_eq_true hl) (fun j v h => by
    rw [← hv] at h
    have hl := (List.getElem?_eq_some_iff.1 h).1
    rw [List.getElem?_take_of_lt (by simp at hl; omega), List.getElem?_drop] at h
    simpa using h) r
theorem Res.cellv {T : Ty P} {j a b off t : Nat} {td : TypeDesc} {arr : Array Value} {E : TypeId} {fr : Nat × Nat} {v : Value} {rs : List ResultVar} {vs : List Value} {Hr : Hp} (h : lk a env = some (.pointer (some ⟨b, off, none⟩)))
    (hu : T.und t = some td) (ha : aggT td = false) (hj : idx j HL = some ((b, .cells arr E fr) :: Hr)) (hv : idx off arr.toList = some v)
    (r : Res T env HL.flatten rs vs) : Res T env HL.flatten (.cell a t :: rs) (v :: vs) :=
  .cell h hu ha (mem_group (by rw [← idx_eq]; exact hj) (List.mem_cons_self ..)) (by rw [idx_eq] at hv; simpa using hv) r
theorem in_elem1 [Inhabited α] {H : Hp} {xs : List α} {a : Option Addr} (h : SliceR k xs a H) {b off : Nat} (ha : a = some ⟨b, off, none⟩) {j : Int} (hj : 0 ≤ j ∧ j < (xs.length : Int)) (f : Nat) {v : Value}
    (hc : idx f (k.enc (rd xs j)) = some v) : ∃ arr E fr, (b, Obj.cells arr E fr) ∈ H ∧ arr[off + j.toNat * k.size + f]? = some v := h.at ha hj.1 hj.2 f hc
theorem in_elemA [Inhabited α] {H : Hp} {xs : List α} {a : Option Addr} (h : SliceR k xs a H) {b off : Nat} (ha : a = some ⟨b, off, none⟩) {j : Int} (hj : 0 ≤ j ∧ j < (xs.length : Int)) {cs : List Value}
    (hc : k.enc (rd xs j) = cs) : ∃ arr E fr, (b, Obj.cells arr E fr) ∈ H ∧ ∀ i v, cs[i]? = some v → arr[off + j.toNat * k.size + i]? = some v := in_elem h ha hj.1 hj.2 hc

theorem at_se [Inhabited α] (T : Ty P) {b off t E : Nat} {x y : Operand} {v : Value} {sz by' cap : Nat} {z : Value} {Hj : Hp} {xs : List α} {a : Option Addr} {j : Int} (g f : Nat) (x' : α)
    (hsl : slot0 ops env i = some o) (hop : o.op = .store t x y) (hx : ev env x = some (.pointer (some ⟨b, off + j.toNat * k.size + f, none⟩)))
    (hy : ev env y = some v) (hi : T.inf t = some (sz, by', z)) (hj : idx g HL = some Hj) (hs : SliceO k E xs a cap Hj) (ha : a = some ⟨b, off, none⟩) (hb : 0 ≤ j ∧ j < (xs.length : Int))
    (hl : Nat.beq (cellsL v).length sz = true) (hf : Nat.ble (f + sz) k.size = true) (he : k.enc x' = splice (k.enc (rd xs j)) f (cellsL v))
    (h : ∀ H', SliceO k E (xs.set j.toNat x') a cap H' → AtL W n K env (HL.set g H')) : AtL W n (wpOp P ops Q i K) env HL :=
  let ⟨ho, hw, hd⟩ := slot0_spec hsl
  at_store_elem T x' ho hw hd hop hx hy hi (by rw [← idx_eq]; exact hj) hs ha hb.1 hb.2 (Nat.eq_of_beq_eq_true hl) (Nat.le_of_ble_eq_true hf) he h
end rules
end

section
open Go.RowKit

/-- all blocks of a world -/
def allOf (W : World) : Hp := W.heap.toList.zipIdx.map fun x => (x.2, x.1)

theorem all_mem {W : World} {b : Nat} {o : Obj} (h : W.heap[b]? = some o) : (b, o) ∈ allOf W := by
  unfold allOf
  refine List.mem_map.2 ⟨(o, b), ?_, rfl⟩
  rw [List.mem_iff_getElem?]
  refine ⟨b, ?_⟩
  rw [List.getElem?_zipIdx]
  simp [h]

theorem own_all (W : World) : Own W W (allOf W) := by
  refine ⟨⟨rfl, rfl, rfl⟩, ?_, ?_⟩
  · unfold allOf
    rw [List.map_map]
    have : ((fun x : Nat × Obj => x.1) ∘ fun (x : Obj × Nat) => (x.2, x.1)) = Prod.snd := rfl
    rw [this, List.zipIdx_map_snd]
    exact List.nodup_range'
  · intro c hc
    unfold allOf at hc
    obtain ⟨x, hx, rfl⟩ := List.mem_map.1 hc
    rw [List.mem_iff_getElem?] at hx
    obtain ⟨i, hi⟩ := hx
    rw [List.getElem?_zipIdx] at hi
    simp only [Option.map_eq_some_iff] at hi
    obtain ⟨o, ho, rfl⟩ := hi
    simpa using ho

theorem own_below {W w' : World} (h : Own W w' (allOf W)) : Below W.heap.size W w' := by
  refine ⟨h.1.1, h.1.2.1, h.1.2.2, ?_, ?_⟩
  · rcases Nat.eq_zero_or_pos W.heap.size with h0 | h0
    · omega
    · have hl : W.heap.size - 1 < W.heap.size := by omega
      have := h.lt (all_mem (Array.getElem?_eq_getElem hl))
      omega
  · intro k hk
    rw [Array.getElem?_eq_getElem hk]
    exact h.lookup (all_mem (Array.getElem?_eq_getElem hk))

theorem row_calls {P : Program} {f : FuncId} {as : List Value} {v : Value} (W : World) (h : CallsL P f as [allOf W] (fun _ : Unit => v) (fun _ => [allOf W])) :
    Calls P f as.toArray W (fun e w' => e = .returned v ∧ Below W.heap.size W w') :=
  (h W W (by simpa using own_all W)).mono fun e w' ⟨_, he, o⟩ => ⟨he, own_below (by simpa using o)⟩

/-- a type whose values read as things of a kind -/
def Opens {α : Type} (P : Program) (t : TypeId) (k : Fl α) (good : α → Prop) : Prop :=
  P.cellsOf t = k.size ∧ ∀ {H : Type} (enc : TypeId × Value → H) (w : World) (base : Nat) (spare : Nat → Bool) (held : Bool) (n : Nat) (cs : List Value) (y : DataW H × List MemPlace),
    DataW.trod enc P w base spare held n t cs = some y → ∃ x, cs = k.enc x ∧ good x

def inI64 (n : Int) : Prop := -9223372036854775808 ≤ n ∧ n ≤ 9223372036854775807
def inU8 (n : Int) : Prop := 0 ≤ n ∧ n ≤ 255

theorem wf_i64 {n : Int} (h : (Lit.int .i64 n).wf = true) : inI64 n := by
  simpa [Lit.wf, IntKind.min, IntKind.max, IntKind.signed, IntKind.bits, inI64] using h
theorem wf_u8 {n : Int} (h : (Lit.int .u8 n).wf = true) : inU8 n := by
  simpa [Lit.wf, IntKind.min, IntKind.max, IntKind.signed, IntKind.bits, inU8] using h

theorem opens_i64 {P : Program} {t : TypeId} (ht : P.underlying t = some (.int .i64)) (hc : P.cellsOf t = 1) : Opens P t (Fl.int .i64) inI64 :=
  ⟨hc, fun _ _ _ _ _ _ _ _ h => let ⟨n, h1, _, h3⟩ := DataW.trod_int ht h; ⟨n, h1, wf_i64 h3⟩⟩
theorem opens_u8 {P : Program} {t : TypeId} (ht : P.underlying t = some (.int .u8)) (hc : P.cellsOf t = 1) : Opens P t (Fl.int .u8) inU8 :=
  ⟨hc, fun _ _ _ _ _ _ _ _ h => let ⟨n, h1, _, h3⟩ := DataW.trod_int ht h; ⟨n, h1, wf_u8 h3⟩⟩

theorem cell_heap {W : World} {a : Addr} {v : Value} (h : W.cell? a = some v) : ∃ c T fr, W.heap[a.block]? = some (.cells c T fr) ∧ a.spot = none ∧ c[a.off]? = some v := by
  unfold World.cell? at h
  split at h
  · rename_i c T fr hb
    split at h
    · cases h
    · rename_i hs
      exact ⟨c, T, fr, hb, by simpa using hs, h⟩
  · cases h

theorem open_flat {α : Type} {P : Program} {W : World} {H : Type} {enc : TypeId × Value → H} {spare : Nat → Bool} {held : Bool} {fuel : Nat} {t e : TypeId} {k : Fl α} {good : α → Prop} {cs : List Value} {y : DataW H × List MemPlace}
    (ht : P.underlying t = some (.slice e)) (ho : Opens P e k good) (h : DataW.trod enc P W 0 spare held fuel t cs = some y) :
    ∃ a cap xs, cs = [.slice a (List.length xs) cap] ∧ SliceR k xs a (allOf W) ∧ List.length xs ≤ cap ∧ (∀ x ∈ xs, good x) ∧ List.length xs ≤ 9223372036854775807 := by
  rcases DataW.trod_slice ht h with ⟨rfl, rfl⟩ | ⟨a, len, cap, elems, rest, n, _, rfl, rfl, hb, hl, hm, hlen, hel, _, _⟩
  · exact ⟨none, 0, [], rfl, .inl rfl, by simp, by simp, by simp⟩
  · rw [ho.1] at hel
    have each : ∀ i, i < len → ∃ x, good x ∧ ∀ j v, (k.enc x)[j]? = some v → W.cell? ((a.add (i * k.size)).add j) = some v := by
      intro i hi
      have hy := hel i hi
      rw [List.getElem?_eq_getElem (by omega)] at hy
      obtain ⟨cs', h1, h2⟩ := Option.bind_eq_some_iff.1 hy
      obtain ⟨x, hx, hg⟩ := ho.2 enc W 0 spare held n cs' _ h2
      obtain ⟨_, hl', hc⟩ := World.cells?_some h1
      refine ⟨x, hg, fun j v hj => ?_⟩
      have hjl := (List.getElem?_eq_some_iff.1 hj).1
      rw [k.len] at hjl
      rw [hc j hjl, hx]; exact hj
    have hex : ∀ m, m ≤ len → ∃ xs : List α, xs.length = m ∧ (∀ x ∈ xs, good x) ∧ ∀ i x, xs[i]? = some x → ∀ j v, (k.enc x)[j]? = some v → W.cell? ((a.add (i * k.size)).add j) = some v := by
      intro m
      induction m with
      | zero => exact fun _ => ⟨[], rfl, by simp, by simp⟩
      | succ m ih =>
        intro hle
        obtain ⟨xs, h1, h2, h3⟩ := ih (by omega)
        obtain ⟨x, hx1, hx2⟩ := each m (by omega)
        refine ⟨xs ++ [x], by simp [h1], ?_, ?_⟩
        · intro z hz
          rcases List.mem_append.1 hz with hz | hz
          · exact h2 z hz
          · simp at hz; subst hz; exact hx1
        · intro i z hz
          by_cases hi : i < xs.length
          · rw [List.getElem?_append_left hi] at hz; exact h3 i z hz
          · rw [List.getElem?_append_right (by omega)] at hz
            have : i = m := by
              have := (List.getElem?_eq_some_iff.1 hz).1
              simp at this; omega
            subst this
            simp [h1] at hz
            subst hz; exact hx2
    obtain ⟨xs, h1, h2, h3⟩ := hex len (Nat.le_refl _)
    subst h1
    refine ⟨some a, cap, xs, rfl, ?_, hl, h2, by unfold maxLen at hm; omega⟩
    cases xs with
    | nil => exact .inl rfl
    | cons x0 r =>
      right
      have hp := k.pos
      obtain ⟨v0, hv0⟩ : ∃ v, (k.enc x0)[0]? = some v := ⟨(k.enc x0)[0]'(by rw [k.len]; exact hp), by rw [List.getElem?_eq_getElem]⟩
      have h0 := h3 0 x0 rfl 0 v0 hv0
      have e0 : (a.add (0 * k.size)).add 0 = a := by simp [Addr.add]
      rw [e0] at h0
      obtain ⟨c, T, fr, hb1, hs, _⟩ := cell_heap h0
      refine ⟨a.block, a.off, c, T, fr, ?_, all_mem hb1, ?_⟩
      · cases a; simp at hs; simp [hs]
      · intro j v hj
        have hjl := (List.getElem?_eq_some_iff.1 hj).1
        rw [row_length] at hjl
        have hq : j / k.size < (x0 :: r).length := by rw [Nat.div_lt_iff_lt_mul hp]; exact hjl
        have hr : j % k.size < k.size := Nat.mod_lt _ hp
        have hg := row_get k (x0 :: r) (j / k.size) (j % k.size) hq hr
        rw [Nat.div_add_mod' j k.size] at hg
        rw [hg] at hj
        have h5 := h3 (j / k.size) _ (List.getElem?_eq_getElem hq) (j % k.size) v hj
        have e1 : (a.add (j / k.size * k.size)).add (j % k.size) = ⟨a.block, a.off + j, none⟩ := by
          have hdm := Nat.div_add_mod' j k.size
          unfold Addr.add
          cases a
          simp at hs
          subst hs
          split <;> split <;> simp <;> omega
        rw [e1] at h5
        obtain ⟨c', T', fr', hb2, _, hc2⟩ := cell_heap h5
        simp at hb2 hc2
        rw [hb1] at hb2
        simp at hb2
        obtain ⟨rfl, _, _⟩ := hb2
        exact hc2

/-! ### a pointer that may be nil, a slice that may be -/
def optm {α β : Type} (o : Option α) (a : Option β) (f : α → Option β) : Option β := match o with
  | none => a
  | some x => f x
theorem optm_n {α β : Type} {o : Option α} {a : Option β} {f : α → Option β} {r : β} (h : o = none) (H : optm o a f = some r) : a = some r := by subst h; exact H
theorem optm_s {α β : Type} {o : Option α} {x : α} {a : Option β} {f : α → Option β} {r : β} (h : o = some x) (H : optm o a f = some r) : f x = some r := by subst h; exact H
theorem nil_of {α : Type} {k : Fl α} {xs : List α} {a : Option Addr} {H : Hp} (h : SliceR k xs a H) (hn : Option.isNone a = true) : xs = [] := by
  rcases h with h | ⟨b, off, arr, E, fr, h1, _⟩
  · exact h
  · subst h1; cases hn

section callR
variable {P : Program} {n : Nat} {Q : Exit → Act → World → Prop} {env : Env} {K : Act → World → Prop} {ops : Array Oper} {i : Nat} {o : Oper} {W : World} {HL : List Hp}
/-- a call that tells what it owns: `Rp` of its value and its blocks; the blocks `Kp` come back as they were -/
theorem at_cR {d : Nat} {c : Operand} {args : Array Operand} {types : Array TypeId} {f : FuncId} {first captured : Array Value} {vs as : List Value} {As R : List Hp} (Rp : Value → List Hp → Prop) (Kp : List Hp)
    (js : List Nat) (hs : slot n ops env i = some (o, d)) (hop : o.op = .call ⟨.value c, args, types⟩) (hc : ev env c = some (.func (.func f) first captured)) (ha : args.toList.mapM (ev env) = some vs) (hf : Has P f)
    (has : first.toList ++ (vs ++ captured.toList) = as) (hsel : sel js HL = (As, R))
    (hcall : CallsL P f as (As ++ [R.flatten]) (fun p : { p : Value × List Hp // Rp p.1 p.2 } => p.1.1) (fun p => (p.1.2 ++ Kp) ++ [R.flatten]))
    (h : ∀ u G, Rp u G → AtL W n K ((d, u) :: env) (R ++ (G ++ Kp))) : AtL W n (wpOp P ops Q i K) env HL :=
  at_c (B := fun p : { p : Value × List Hp // Rp p.1 p.2 } => p.1.2 ++ Kp) js hs hop hc ha hf has hsel hcall (fun p => h p.1.1 p.1.2 p.2)
theorem at_cnR {c : Operand} {args : Array Operand} {types : Array TypeId} {f : FuncId} {first captured : Array Value} {vs as : List Value} {As R : List Hp} (Rp : Value → List Hp → Prop) (Kp : List Hp)
    (js : List Nat) (ho : ops[i]? = some o) (hw : want ops env o = some true) (hd : o.dst = none) (hop : o.op = .call ⟨.value c, args, types⟩) (hc : ev env c = some (.func (.func f) first captured)) (ha : args.toList.mapM (ev env) = some vs) (hf : Has P f)
    (has : first.toList ++ (vs ++ captured.toList) = as) (hsel : sel js HL = (As, R))
    (hcall : CallsL P f as (As ++ [R.flatten]) (fun p : { p : Value × List Hp // Rp p.1 p.2 } => p.1.1) (fun p => (p.1.2 ++ Kp) ++ [R.flatten]))
    (h : ∀ u G, Rp u G → AtL W n K env (R ++ (G ++ Kp))) : AtL W n (wpOp P ops Q i K) env HL :=
  at_cn (B := fun p : { p : Value × List Hp // Rp p.1 p.2 } => p.1.2 ++ Kp) js ho hw hd hop hc ha hf has hsel hcall (fun p => h p.1.1 p.1.2 p.2)
/-- a call that reads blocks of ours, in a region that draws its order and writes nothing -/
theorem atq_cr {d : Nat} {c : Operand} {args : Array Operand} {types : Array TypeId} {f : FuncId} {first captured : Array Value} {vs as : List Value} {v : Value} {l : List Oper} {F : Act → Prop} {As R : List Hp}
    (js : List Nat) (hw : want ops env o = some true) (hd : o.dst = some d) (hn : Nat.blt d n = true) (hop : o.op = .call ⟨.value c, args, types⟩) (hc : ev env c = some (.func (.func f) first captured)) (ha : args.toList.mapM (ev env) = some vs) (hf : Has P f)
    (has : first.toList ++ (vs ++ captured.toList) = as) (hsel : sel js HL = (As, R)) (hcall : CallsL P f as (As ++ [R.flatten]) (fun _ : Unit => v) (fun _ => As ++ [R.flatten]))
    (h : AtQ W P n ops HL.flatten l F ((d, v) :: env)) : AtQ W P n ops HL.flatten (o :: l) F env := by
  have hp : HL.flatten.Perm (As ++ [R.flatten]).flatten := by have := sel_perm js HL; rw [hsel] at this; simpa using this
  refine atq_c hw hd hn hop hc ha hf has (CallsTo.imp hcall (fun W w o => (show Own W w HL.flatten by simpa using o).perm hp) (fun b => ⟨b, rfl, fun W w o => by simpa using Own.perm o hp.symm⟩)) h
end callR
end

section
variable {W : World}
section late
variable {P : Program} {ops : Array Oper} {Q : Exit → Act → World → Prop} {S : World → Prop} {late : List Nat} {A : List (List Nat)}

/-- none of the late ones has come up -/
def lateFree (late : List Nat) (listed : Array Bool) : Bool := late.all fun l => !(listed.getD l false)
/-- whatever order is picked from here on; S holds until one of the late ones has come up -/
def wpAnyL (P : Program) (ops : Array Oper) (Q : Exit → Act → World → Prop) (S : World → Prop) (late : List Nat) : Nat → Array Bool → Act → World → Prop
  | 0, listed, a, w => Region.ready .any ops listed = [] ∧ Q .normal a w
  | fuel + 1, listed, a, w =>
    (Region.ready .any ops listed = [] → Q .normal a w) ∧
    ∀ i ∈ Region.ready .any ops listed, wpOp P ops Q i (fun a' w' => (lateFree late (listed.setIfInBounds i true) = true → S w') ∧ wpAnyL P ops Q S late fuel (listed.setIfInBounds i true) a' w') a w

theorem wpAny_of_late : ∀ (fuel : Nat) (listed : Array Bool) (a : Act) (w : World), wpAnyL P ops Q S late fuel listed a w → wpAny P .any ops Q fuel listed a w
  | 0, _, _, _, h => h
  | fuel + 1, _, _, _, h => ⟨h.1, fun i hi => wpOp_mono (fun a' w' h' => wpAny_of_late fuel _ a' w' h'.2) (h.2 i hi)⟩

/-- what stands ahead of each operation, as far as it is told -/
def aheadOk (ops : Array Oper) (A : List (List Nat)) : Bool :=
  (List.range ops.size).all fun j => (A.getD j []).all fun k => (ops.getD j default).after.toList.any fun e => Region.binds .any e && (e.on == k || (A.getD e.on []).contains k)
def shut (A : List (List Nat)) (listed : Array Bool) : Bool :=
  (List.range listed.size).all fun j => !(listed.getD j false) || (A.getD j []).all fun k => listed.getD k false

theorem shut_spec {listed : Array Bool} (h : shut A listed = true) {j k : Nat} (hj : listed.getD j false = true) (hk : k ∈ A.getD j []) : listed.getD k false = true := by
  unfold shut at h
  rw [List.all_eq_true] at h
  have hlt : j < listed.size := by
    rcases Nat.lt_or_ge j listed.size with h' | h'
    · exact h'
    · simp [Array.getD, Nat.not_lt.2 h'] at hj
  have := h j (List.mem_range.2 hlt)
  rw [hj] at this
  simp only [Bool.not_true, Bool.false_or, List.all_eq_true] at this
  exact this k hk
theorem shut_of {listed : Array Bool} (h : ∀ j k, listed.getD j false = true → k ∈ A.getD j [] → listed.getD k false = true) : shut A listed = true := by
  unfold shut
  rw [List.all_eq_true]
  intro j _
  cases hj : listed.getD j false with
  | false => rfl
  | true =>
    simp only [Bool.not_true, Bool.false_or, List.all_eq_true]
    exact fun k hk => h j k hj hk

theorem ahead_listed (ha : aheadOk ops A = true) {listed : Array Bool} (hs : shut A listed = true) {j : Nat} (hj : j ∈ Region.ready .any ops listed) {k : Nat} (hk : k ∈ A.getD j []) : listed.getD k false = true := by
  obtain ⟨_, oj, hoj, hall⟩ := mem_ready.1 hj
  unfold aheadOk at ha
  rw [List.all_eq_true] at ha
  have hlt : j < ops.size := (Array.getElem?_eq_some_iff.1 hoj).1
  have h1 := ha j (List.mem_range.2 hlt)
  rw [List.all_eq_true] at h1
  have h2 := h1 k hk
  have hg : ops.getD j default = oj := by simp [Array.getD, hlt]; exact (Array.getElem?_eq_some_iff.1 hoj).2
  rw [hg, List.any_eq_true] at h2
  obtain ⟨e, he, h3⟩ := h2
  simp only [Bool.and_eq_true, Bool.or_eq_true, beq_iff_eq] at h3
  have h4 := hall e (Array.mem_toList_iff.1 he) h3.1
  rcases h3.2 with h5 | h5
  · rw [← h5]; exact h4
  · exact shut_spec hs h4 (by simpa using h5)

theorem getD_set_no {listed : Array Bool} {j k : Nat} (d : Bool) (h : j ≠ k) : (listed.setIfInBounds j true).getD k d = listed.getD k d := by
  cases d with
  | true => exact getD_set_ne true h
  | false =>
    rcases Nat.lt_or_ge k listed.size with h' | h'
    · simp [Array.getD, h', Array.getElem_setIfInBounds, h]
    · simp [Array.getD, Nat.not_lt.2 h']
theorem shut_set {listed : Array Bool} (ha : aheadOk ops A = true) (hs : shut A listed = true) {j : Nat} (hj : j ∈ Region.ready .any ops listed) : shut A (listed.setIfInBounds j true) = true := by
  refine shut_of fun x k hx hk => ?_
  have up : ∀ k, listed.getD k false = true → (listed.setIfInBounds j true).getD k false = true := fun k hk => by
    by_cases hjk : j = k
    · subst hjk
      rcases Nat.lt_or_ge j listed.size with h' | h'
      · simp [Array.getD, h']
      · simp [Array.getD, Nat.not_lt.2 h'] at hk
    · rw [getD_set_no false hjk]; exact hk
  by_cases hjx : j = x
  · subst hjx; exact up k (ahead_listed ha hs hj hk)
  · rw [getD_set_no false hjx] at hx
    exact up k (shut_spec hs hx hk)
theorem unlisted {listed : Array Bool} {i : Nat} (hr : i ∈ Region.ready .any ops listed) : listed.getD i false = false := by
  have h0 := (mem_ready.1 hr).1
  rcases Nat.lt_or_ge i listed.size with h' | h'
  · simp [Array.getD, h'] at h0 ⊢; exact h0
  · simp [Array.getD, Nat.not_lt.2 h'] at h0
theorem lateFree_of {listed : Array Bool} {i : Nat} (hl : (late.all fun j => (A.getD j []).contains i) = true) (hs : shut A listed = true) (hi : listed.getD i false = false) : lateFree late listed = true := by
  unfold lateFree
  rw [List.all_eq_true] at hl ⊢
  intro j hj
  cases hb : listed.getD j false with
  | false => rfl
  | true =>
    have h1 := hl j hj
    have := shut_spec hs hb (k := i) (by simpa using h1)
    rw [hi] at this; cases this
theorem lateFree_set {listed : Array Bool} {i : Nat} (hi : late.contains i = false) : lateFree late (listed.setIfInBounds i true) = lateFree late listed := by
  unfold lateFree
  rw [Bool.eq_iff_iff, List.all_eq_true, List.all_eq_true]
  have h : ∀ l ∈ late, i ≠ l := fun l hl e => by subst e; simp [hl] at hi
  constructor
  · intro q l hl; have := q l hl; rwa [getD_set_no false (h l hl)] at this
  · intro q l hl; rw [getD_set_no false (h l hl)]; exact q l hl

/-- an operation that yields its value wherever the others that may come ahead of it leave the world may be taken first -/
theorem wpAnyL_first {T : World → Prop} {i : Nat} {oi : Oper} {v : Value} (hi : ops[i]? = some oi) (hsel : ∀ (j : Nat) (o : Oper) cs b, ops[j]? = some o → o.op ≠ .select cs b)
    (hQ : ∀ c a w, Q (.panic c) (a.put oi.dst v) w → Q (.panic c) a w) (hST : ∀ w, S w → T w) (hl : (∀ w, T w) ∨ (late.all fun j => (A.getD j []).contains i) = true) (hn : late.contains i = false) (ha : aheadOk ops A = true) :
    ∀ (fuel : Nat) (listed : Array Bool) (a : Act) (w : World),
      (∀ j oj, ops[j]? = some oj → j ≠ i → listed.getD j true = false → (∀ e ∈ oj.after, Region.binds .any e = true → e.on ≠ i) → oi.apart ops oj = true) → shut A listed = true →
      i ∈ Region.ready .any ops listed → YieldsIf P ops T oi v a → (lateFree late listed = true → S w) →
      wpAnyL P ops Q S late fuel (listed.setIfInBounds i true) (a.put oi.dst v) w → wpAnyL P ops Q S late (fuel + 1) listed a w := by
  intro fuel
  have tell : ∀ (listed : Array Bool) (w : World), shut A listed = true → listed.getD i false = false → (lateFree late listed = true → S w) → T w := by
    intro listed w hs hr hw
    rcases hl with hl | hl
    · exact hl w
    · exact hST w (hw (lateFree_of hl hs hr))
  induction fuel with
  | zero =>
    intro listed a w _ hs hr hy hS H
    refine ⟨fun h => (by rw [h] at hr; cases hr), fun j hj => ?_⟩
    by_cases hji : j = i
    · subst hji; exact hy.wpOp hi (tell listed w hs (unlisted hr) hS) ⟨fun hc => hS (by rwa [lateFree_set hn] at hc), H⟩
    · have := ready_mono hj hji
      rw [H.1] at this
      cases this
  | succ fuel ih =>
    intro listed a w hfree hs hr hy hS H
    refine ⟨fun h => (by rw [h] at hr; cases hr), fun j hj => ?_⟩
    by_cases hji : j = i
    · subst hji; exact hy.wpOp hi (tell listed w hs (unlisted hr) hS) ⟨fun hc => hS (by rwa [lateFree_set hn] at hc), H⟩
    · have h1 := H.2 j (ready_mono hj hji)
      obtain ⟨hjun, oj, hoj, hall⟩ := mem_ready.1 hj
      have hnot : ∀ e ∈ oj.after, Region.binds .any e = true → e.on ≠ i := fun e he hb heq => by
        have h1 := hall e he hb
        rw [heq, unlisted hr] at h1; cases h1
      have h2 := wpOp_putIf hoj (hfree j oj hoj hji hjun hnot) (fun cs b => hsel i oi cs b hi) (fun cs b => hsel j oj cs b hoj) hQ hy h1
      have hfree' : ∀ k ok, ops[k]? = some ok → k ≠ i → (listed.setIfInBounds j true).getD k true = false →
          (∀ e ∈ ok.after, Region.binds .any e = true → e.on ≠ i) → oi.apart ops ok = true := fun k ok hk hki hun hno => by
        refine hfree k ok hk hki ?_ hno
        by_cases hjk : j = k
        · subst hjk; exact hjun
        · rw [getD_set_ne true hjk] at hun; exact hun
      refine wpOp_mono (fun a' w' h3 => ?_) h2
      have e1 : lateFree late ((listed.setIfInBounds i true).setIfInBounds j true) = lateFree late (listed.setIfInBounds j true) := by
        rw [Array.setIfInBounds_comm _ _ (Ne.symm hji)]; exact lateFree_set hn
      have hS' : lateFree late (listed.setIfInBounds j true) = true → S w' := fun h => h3.2.1 (by rw [e1]; exact h)
      refine ⟨hS', ih (listed.setIfInBounds j true) a' w' hfree' (shut_set ha hs hj) (ready_mono hr (Ne.symm hji)) h3.1 hS' ?_⟩
      rw [Array.setIfInBounds_comm _ _ hji]
      exact h3.2.2
end late

/-! ### a region that draws its order and writes: in slots and blocks -/
section regm
variable {P : Program} {n : Nat} {Q : Exit → Act → World → Prop} {env : Env} {ops : Array Oper} {i : Nat} {o : Oper} {HL : List Hp} {late : List Nat} {A : List (List Nat)} {H0 : List Hp} {fuel : Nat} {listed : Array Bool}
def SO (W : World) (H0 : List Hp) (w : World) : Prop := Own W w H0.flatten
def goB (ops : Array Oper) (A : List (List Nat)) : Bool := aheadOk ops A && Region.noSelect ops
def takeB (ops : Array Oper) (A : List (List Nat)) (late : List Nat) (listed : Array Bool) (i : Nat) : Bool :=
  Region.free .any ops listed i && ((Region.ready .any ops listed).contains i && (shut A listed && !(late.contains i)))
/-- what is known of the blocks that nobody turns ahead of the late ones -/
def StillM (W : World) (late : List Nat) (listed : Array Bool) (HL H0 : List Hp) : Prop := lateFree late listed = false ∨ ∀ w, Own W w HL.flatten → SO W H0 w
theorem still_l (h : lateFree late listed = false) : StillM W late listed HL H0 := .inl h
theorem still_o (js : List Nat) (h : pick js HL = H0) : StillM W late listed HL H0 := .inr fun _ o => own_to js h o
theorem StillM.of (h : StillM W late listed HL H0) {w : World} (o : Own W w HL.flatten) (hl : lateFree late listed = true) : SO W H0 w := by
  rcases h with h | h
  · rw [h] at hl; cases hl
  · exact h w o

theorem at_region_m (A : List (List Nat)) (late : List Nat) (H0 : List Hp) {id : Nat} (hm : P.follows .mixedOrders = true) (hg : goB ops A = true) (hpf : PF Q)
    (h : goB ops A = true → PF Q → AtL W n (wpAnyL P ops Q (SO W H0) late ops.size (Array.replicate ops.size false)) env HL) :
    AtL W n ((Code.region id ops true).wp P Q) env HL :=
  fun t _ s ow => wp_region_any hm (wpAny_of_late _ _ _ _ (h hg hpf t _ s ow.drew))

theorem atm_take {d : Nat} {v : Value} {Tp : World → Prop} (hg : goB ops A = true) (hpf : PF Q) (hb : takeB ops A late listed i = true) (hS : StillM W late listed HL H0) (hST : ∀ w, SO W H0 w → Tp w)
    (hl : (∀ w, Tp w) ∨ (late.all fun j => (A.getD j []).contains i) = true) (ho : ops[i]? = some o) (hd : o.dst = some d) (hn : d < n)
    (hy : ∀ t, Slots n t env → YieldsIf P ops Tp o v ⟨t, []⟩)
    (h : AtL W n (wpAnyL P ops Q (SO W H0) late fuel (listed.setIfInBounds i true)) ((d, v) :: env) HL) : AtL W n (wpAnyL P ops Q (SO W H0) late (fuel + 1) listed) env HL := by
  intro t w s ow
  simp only [goB, Bool.and_eq_true] at hg
  simp only [takeB, Bool.and_eq_true, Bool.not_eq_true'] at hb
  obtain ⟨h1, h2, h3, h4⟩ := hb
  refine wpAnyL_first (v := v) ho (Region.noSelect_spec hg.2) (fun c a w' => hpf c a o.dst v w') hST hl h4 hg.1 fuel listed _ w (Region.free_spec ho h1) h3 (by simpa using h2) (hy t s) (fun q => hS.of ow q) ?_
  have := h _ w (s.put (v := v) hn) ow
  simpa [Act.put, hd] using this

theorem atm_s (T : Ty P) (i : Nat) {e : Nat × Value} (hg : goB ops A = true) (hpf : PF Q) (hb : takeB ops A late listed i = true) (hS : StillM W late listed HL H0) (hs : stepP T n ops env i = some e)
    (h : AtL W n (wpAnyL P ops Q (SO W H0) late fuel (listed.setIfInBounds i true)) (e :: env) HL) : AtL W n (wpAnyL P ops Q (SO W H0) late (fuel + 1) listed) env HL := by
  unfold stepP at hs
  split at hs
  · cases hs
  · rename_i o ho
    split at hs
    · rename_i d hw hd
      cases hb' : Nat.blt d n with
      | false => simp [hb'] at hs
      | true =>
        simp only [hb', cond_true] at hs
        split at hs
        · rename_i v hv
          simp at hs; subst hs
          exact atm_take (Tp := fun _ => True) hg hpf hb hS (fun _ _ => trivial) (.inl fun _ => trivial) ho hd (by simpa using hb') (fun t s => .inl ⟨want_wanted s hw, fun w _ => pureVal_run s hv w⟩) h
        · cases hs
    · rename_i d hw hd
      cases hb' : Nat.blt d n with
      | false => simp [hb'] at hs
      | true =>
        simp [hb'] at hs; subst hs
        exact atm_take (Tp := fun _ => True) hg hpf hb hS (fun _ _ => trivial) (.inl fun _ => trivial) ho hd (by simpa using hb') (fun t s => .inr ⟨want_wanted s hw, rfl⟩) h
    · cases hs

theorem atm_v (i : Nat) {d : Nat} {v : Value} (hg : goB ops A = true) (hpf : PF Q) (hb : takeB ops A late listed i = true) (hS : StillM W late listed HL H0) (hl : (late.all fun j => (A.getD j []).contains i) = true)
    (hs : slot n ops env i = some (o, d)) (hv : Gives W P n env H0.flatten o v)
    (h : AtL W n (wpAnyL P ops Q (SO W H0) late fuel (listed.setIfInBounds i true)) ((d, v) :: env) HL) : AtL W n (wpAnyL P ops Q (SO W H0) late (fuel + 1) listed) env HL :=
  let ⟨ho, hw, hd, hn⟩ := slot_spec hs
  atm_take (Tp := SO W H0) hg hpf hb hS (fun _ h => h) (.inr hl) ho hd hn (fun t s => .inl ⟨want_wanted s hw, fun w q => hv t w s q⟩) h

/-- behind an operation that may write -/
def NextM (W : World) (P : Program) (ops : Array Oper) (Q : Exit → Act → World → Prop) (H0 : List Hp) (late : List Nat) (fuel : Nat) (listed : Array Bool) (a : Act) (w : World) : Prop :=
  (lateFree late listed = true → SO W H0 w) ∧ wpAnyL P ops Q (SO W H0) late fuel listed a w
theorem atm_next (hS : StillM W late listed HL H0) (h : AtL W n (wpAnyL P ops Q (SO W H0) late fuel listed) env HL) : AtL W n (NextM W P ops Q H0 late fuel listed) env HL :=
  fun t w s ow => ⟨fun q => hS.of ow q, h t w s ow⟩
theorem atm_one (i : Nat) (hr : Region.ready .any ops listed = [i]) (h : AtL W n (wpOp P ops Q i (NextM W P ops Q H0 late fuel (listed.setIfInBounds i true))) env HL) :
    AtL W n (wpAnyL P ops Q (SO W H0) late (fuel + 1) listed) env HL := by
  intro t w s ow
  refine ⟨fun q => (by rw [hr] at q; cases q), fun j hj => ?_⟩
  rw [hr] at hj
  simp at hj; subst hj; exact h t w s ow
theorem atm_two (i j : Nat) (hr : Region.ready .any ops listed = [i, j]) (h1 : AtL W n (wpOp P ops Q i (NextM W P ops Q H0 late fuel (listed.setIfInBounds i true))) env HL)
    (h2 : AtL W n (wpOp P ops Q j (NextM W P ops Q H0 late fuel (listed.setIfInBounds j true))) env HL) :
    AtL W n (wpAnyL P ops Q (SO W H0) late (fuel + 1) listed) env HL := by
  intro t w s ow
  refine ⟨fun q => (by rw [hr] at q; cases q), fun k hk => ?_⟩
  rw [hr] at hk
  simp at hk; rcases hk with rfl | rfl
  · exact h1 t w s ow
  · exact h2 t w s ow
theorem atm_three (i j m : Nat) (hr : Region.ready .any ops listed = [i, j, m]) (h1 : AtL W n (wpOp P ops Q i (NextM W P ops Q H0 late fuel (listed.setIfInBounds i true))) env HL)
    (h2 : AtL W n (wpOp P ops Q j (NextM W P ops Q H0 late fuel (listed.setIfInBounds j true))) env HL)
    (h3 : AtL W n (wpOp P ops Q m (NextM W P ops Q H0 late fuel (listed.setIfInBounds m true))) env HL) :
    AtL W n (wpAnyL P ops Q (SO W H0) late (fuel + 1) listed) env HL := by
  intro t w s ow
  refine ⟨fun q => (by rw [hr] at q; cases q), fun k hk => ?_⟩
  rw [hr] at hk
  simp at hk; rcases hk with rfl | rfl | rfl
  · exact h1 t w s ow
  · exact h2 t w s ow
  · exact h3 t w s ow
theorem atm_end (hr : Region.ready .any ops listed = []) (h : AtL W n (Q .normal) env HL) : AtL W n (wpAnyL P ops Q (SO W H0) late fuel listed) env HL := by
  intro t w s ow
  cases fuel with
  | zero => exact ⟨hr, h t w s ow⟩
  | succ fuel => exact ⟨fun _ => h t w s ow, by rw [hr]; simp⟩
end regm
end

section
variable {W : World}
variable {P : Program}

/-! ### copy -/
/-- so many of ys laid over xs from a place on -/
def cpy {α : Type} (xs : List α) (lo n : Nat) (ys : List α) : List α := xs.take lo ++ (ys.take n ++ xs.drop (lo + n))
theorem cpy_length {α : Type} {xs ys : List α} {lo n : Nat} (h1 : lo + n ≤ xs.length) (h2 : n ≤ ys.length) : (cpy xs lo n ys).length = xs.length := by
  simp [cpy]; omega

section
variable {α : Type} {k : Fl α}
theorem SliceR.take {xs : List α} {a : Option Addr} {H : Hp} (h : SliceR k xs a H) (n : Nat) : SliceR k (xs.take n) a H := by
  rcases h with rfl | ⟨b, off, arr, E, fr, h1, h2, h3⟩
  · left; simp
  · refine .inr ⟨b, off, arr, E, fr, h1, h2, fun j v hj => h3 j v ?_⟩
    have : row k xs = row k (xs.take n) ++ row k (xs.drop n) := by rw [← row_append, List.take_append_drop]
    rw [this, List.getElem?_append_left (List.getElem?_eq_some_iff.1 hj).1]; exact hj

theorem copy_run (T : Ty P) {t t' ty E : TypeId} {xs ys : List α} {a a2 da : Option Addr} {g cap cap2 dc dl lo sz by' : Nat} {z : Value} {Hj : Hp} {w : World} {HL : List Hp}
    (hu : T.und t = some (.slice E)) (hi : T.inf E = some (sz, by', z)) (hk : k.size = sz)
    (hj : HL[g]? = some Hj) (so : SliceO k E xs a cap Hj) (sr : SliceR k ys a2 HL.flatten) (hda : (da = a ∧ lo = 0) ∨ da = subA a cap lo sz) (hl : lo + dl ≤ xs.length) (ow : Own W w HL.flatten) :
    ∃ H' w', (Builtin.copy_ #[t, t'] ty #[.slice da dl dc, .slice a2 ys.length cap2]).run P w = .ok (.int .i64 (min ys.length dl : Nat)) w' ∧
      SliceO k E (cpy xs lo (min ys.length dl) ys) a cap H' ∧ Own W w' (HL.set g H').flatten := by
  have hfx : (Builtin.firstCells sz (min ys.length dl) (.slice a2 ys.length cap2)).run P w = .ok (row k (ys.take (min ys.length dl))).toArray w := by
    have h1 : (ys.take (min ys.length dl)).length = min ys.length dl := by simp
    have := run_first (P := P) (sr.take (min ys.length dl)) ow ys.length cap2
    rw [h1, hk] at this; exact this
  have hrun : ∀ (r : Option Addr) (w' : World), r = da → (match r with | some ad => (storeCells ad (row k (ys.take (min ys.length dl)))).run P w = .ok () w' | none => w' = w) →
      (Builtin.copy_ #[t, t'] ty #[.slice da dl dc, .slice a2 ys.length cap2]).run P w = .ok (.int .i64 (min ys.length dl : Nat)) w' := by
    intro r w' hr h
    subst hr
    have hm : Nat.min ys.length dl = min ys.length dl := rfl
    cases r with
    | none => subst h; simp [Builtin.copy_, run_und hu, run_size hi, Builtin.lenOf, hm, hfx, goInt]
    | some ad => simp [Builtin.copy_, run_und hu, run_size hi, Builtin.lenOf, hm, hfx, h, goInt]
  rcases so with ⟨rfl, rfl, rfl, rfl⟩ | ⟨b, pre, post, rfl, rfl, h3, h4⟩
  · have hz : lo = 0 ∧ dl = 0 := by simp at hl; omega
    obtain ⟨rfl, rfl⟩ := hz
    have hdn : da = none := by
      rcases hda with ⟨h, _⟩ | h
      · exact h
      · simpa [subA] using h
    refine ⟨[], w, hrun none w hdn.symm rfl, .inl ⟨rfl, by simp [cpy], rfl, rfl⟩, own_set hj (by simpa using own_get hj ow)⟩
  · have hxl := row_length k xs
    have hnl : (ys.take (min ys.length dl)).length = min ys.length dl := by simp
    have hyl := row_length k (ys.take (min ys.length dl))
    rw [hnl] at hyl
    by_cases h0 : min ys.length dl = 0
    · have hc : cpy xs lo (min ys.length dl) ys = xs := by rw [h0]; simp [cpy]
      have hne : ∃ ad, da = some ad := by
        rcases hda with ⟨h, _⟩ | h
        · exact ⟨_, h⟩
        · unfold subA at h; split at h
          · exact ⟨_, h⟩
          · exact ⟨_, h⟩
      obtain ⟨ad, had⟩ := hne
      refine ⟨_, w, hrun (some ad) w had.symm ?_, by rw [hc]; exact .inr ⟨b, pre, post, rfl, rfl, h3, h4⟩, own_set hj (own_get hj ow)⟩
      have : row k (ys.take (min ys.length dl)) = [] := by rw [h0]; simp [row_nil]
      rw [this]; simp [storeCells]
    · have hdd : da = some ⟨b, pre.length + lo * sz, none⟩ := by
        rcases hda with ⟨h, h'⟩ | h
        · rw [h, h']; simp
        · have hne : cap ≠ lo := by omega
          rw [h]; simp only [subA, hne, if_false, Option.map_some, Addr.add]
          split
          · rename_i h0; simp [h0]
          · rfl
      have hlo : lo * sz + min ys.length dl * sz ≤ xs.length * sz := by rw [← Nat.add_mul]; exact Nat.mul_le_mul_right _ (by omega)
      obtain ⟨w', hr, ow'⟩ := run_storeCells' T b E (row k (ys.take (min ys.length dl))) w (pre ++ (row k xs ++ post)).toArray (pre.length + lo * sz) 0 (by simpa using own_get hj ow)
        (by simp [hxl, hyl, hk]; omega) (row_plain k _)
      refine ⟨[(b, Obj.cells (pre ++ (row k (cpy xs lo (min ys.length dl) ys) ++ post)).toArray E (0, 0))], w', hrun (some _) w' hdd.symm hr, ?_, ?_⟩
      · have hcl := cpy_length (xs := xs) (ys := ys) (lo := lo) (n := min ys.length dl) (by omega) (by omega)
        exact .inr ⟨b, pre, post, rfl, rfl, by rw [hcl]; exact h3, by rw [hcl]; exact h4⟩
      · refine own_set hj ?_
        rw [Nat.add_zero, stored_toList _ _ _ (by simp [hxl, hyl, hk]; omega)] at ow'
        have e : splice (pre ++ (row k xs ++ post)) (pre.length + lo * sz) (row k (ys.take (min ys.length dl))) = pre ++ (row k (cpy xs lo (min ys.length dl) ys) ++ post) := by
          have hx1 : row k xs = row k (xs.take lo) ++ row k (xs.drop lo) := by rw [← row_append, List.take_append_drop]
          have hx2 : row k (xs.drop lo) = row k ((xs.drop lo).take (min ys.length dl)) ++ row k (xs.drop (lo + min ys.length dl)) := by
            rw [← row_append, ← List.drop_drop, List.take_append_drop]
          have hl1 : (row k (xs.take lo)).length = lo * sz := by rw [row_length, hk]; congr 1; simp; omega
          have hl2 : (row k ((xs.drop lo).take (min ys.length dl))).length = min ys.length dl * sz := by rw [row_length, hk]; congr 1; simp; omega
          unfold splice
          rw [show pre.length + lo * sz = (pre ++ row k (xs.take lo)).length by simp [hl1]]
          rw [show pre ++ (row k xs ++ post) = (pre ++ row k (xs.take lo)) ++ (row k (xs.drop lo) ++ post) by rw [hx1]; simp]
          rw [List.take_left', List.drop_length_add_append, hx2]
          · rw [show (row k (ys.take (min ys.length dl))).length = (row k ((xs.drop lo).take (min ys.length dl))).length by rw [hyl, hl2, hk]]
            rw [show row k ((xs.drop lo).take (min ys.length dl)) ++ row k (xs.drop (lo + min ys.length dl)) ++ post = row k ((xs.drop lo).take (min ys.length dl)) ++ (row k (xs.drop (lo + min ys.length dl)) ++ post) by simp]
            rw [List.drop_left']
            · simp [cpy, row_append]
            · rfl
          · rfl
        simpa [e] using ow'

theorem fit0 (n : Nat) : 0 + n ≤ n := by omega
theorem sub_fit {xs : List α} {lo hi : Int} (h : 0 ≤ lo ∧ lo ≤ hi ∧ hi ≤ (xs.length : Int)) : lo.toNat + (sub' xs lo hi).length ≤ xs.length := by
  rw [sub_length h]; omega
theorem cpy_len {xs ys : List α} {lo dl : Nat} (h : lo + dl ≤ xs.length) : (cpy xs lo (min ys.length dl) ys).length = xs.length := cpy_length (by omega) (by omega)

section rules
variable {T : Ty P} {n : Nat} {Q : Exit → Act → World → Prop} {env : Env} {HL : List Hp} {ops : Array Oper} {i : Nat} {K : Act → World → Prop} {o : Oper}
theorem at_cp (T : Ty P) {d g lo : Nat} {s x : Operand} {t t' E : TypeId} {xs ys : List α} {a a2 da : Option Addr} {cap cap2 dc dl sz by' : Nat} {z : Value} {Hj : Hp}
    (hsl : slot n ops env i = some (o, d)) (hop : o.op = .call ⟨.builtin .copy, #[s, x], #[t, t']⟩)
    (hs : ev env s = some (.slice da dl dc)) (hx : ev env x = some (.slice a2 ys.length cap2)) (hu : T.und t = some (.slice E)) (hi : T.inf E = some (sz, by', z)) (hk : k.size = sz)
    (hj : idx g HL = some Hj) (so : SliceO k E xs a cap Hj) (sr : SliceR k ys a2 HL.flatten) (hda : (da = a ∧ lo = 0) ∨ da = subA a cap lo sz) (hl : lo + dl ≤ xs.length)
    (h : ∀ H', SliceO k E (cpy xs lo (min ys.length dl) ys) a cap H' → AtL W n K ((d, .int .i64 (min ys.length dl : Nat)) :: env) (HL.set g H')) : AtL W n (wpOp P ops Q i K) env HL := by
  obtain ⟨ho, hw, hd, hn⟩ := slot_spec hsl
  refine at_val_w (β := { H' : Hp // SliceO k E (cpy xs lo (min ys.length dl) ys) a cap H' }) (V := fun _ => .int .i64 (min ys.length dl : Nat)) (G := fun p => (HL.set g p.1).flatten)
    ho hw hd hn (fun tt w sl ow => ?_) (fun p => h _ p.2)
  obtain ⟨H', w', hr, hso, ow'⟩ := copy_run (P := P) T (ty := o.type) (t' := t') (dc := dc) (cap2 := cap2) hu hi hk (by rw [← idx_eq]; exact hj) so sr hda hl ow
  refine ⟨⟨H', hso⟩, w', ?_, ow'⟩
  obtain ⟨cs, hb⟩ := run_builtin (P := P) (t := tt) w hop
  rw [hb]
  simp only [List.map_toArray, List.map_cons, List.map_nil, ev_eval sl hs, ev_eval sl hx, builtin, Sem.run_bind]
  refine Eq.trans (congrArg (fun r => Result.andThen r _) hr) ?_
  simp only [Result.andThen_ok, Sem.run_pure]
end rules
end
end

section
variable {W : World}
variable {P : Program}

/-! ### strings made of bytes -/
def strB (xs : List Int) : ByteArray := xs.foldl (fun s n => s.push (UInt8.ofNat n.toNat)) ByteArray.empty
def strEq (a b : List Int) : Bool := (strB a).toList == (strB b).toList
theorem strEq_self (a : List Int) : strEq a a = true := by simp [strEq]

theorem row_u8 (xs : List Int) : row (Fl.int .u8) xs = xs.map fun n => Value.int .u8 n := by
  induction xs with
  | nil => rfl
  | cons x xs ih => rw [row_cons, ih]; rfl

theorem run_bytes {xs : List Int} {a : Option Addr} {H : Hp} {w : World} (hr : SliceR (Fl.int .u8) xs a H) (ow : Own W w H) (cap : Nat) :
    (Conv.bytesToString (.slice a xs.length cap)).run P w = .ok (.string (strB xs)) w := by
  have hf := run_first (P := P) hr ow xs.length cap
  cases a with
  | none =>
    have : xs = [] := by
      rcases hr with h | ⟨b, off, arr, E, fr, h1, _⟩
      · exact h
      · cases h1
    subst this
    simp [Conv.bytesToString, strB]
  | some ad =>
    have hl : (loadCells ad xs.length).run P w = .ok (row (Fl.int .u8) xs).toArray w := by
      have e : (Fl.int .u8).size = 1 := rfl
      simpa [Builtin.firstCells, e] using hf
    unfold Conv.bytesToString
    simp only [Sem.run_bind, hl, Result.andThen_ok, row_u8]
    rw [← Array.forIn_toList]
    have key : ∀ (l : List Int) (s0 : ByteArray), (forIn (m := Sem) (l.map fun n => Value.int .u8 n) s0 fun c s =>
        match c with
        | Value.int .u8 n => pure (ForInStep.yield (s.push (UInt8.ofNat n.toNat)))
        | _ => do
          stuck "bytesToString: byte expected"
          pure (ForInStep.yield s)).run P w = .ok (l.foldl (fun s n => s.push (UInt8.ofNat n.toNat)) s0) w := by
      intro l
      induction l with
      | nil => intro s0; simp
      | cons x l ih =>
        intro s0
        simp only [List.map_cons, List.forIn_cons, Sem.run_bind, Sem.run_pure, Result.andThen_ok, List.foldl_cons]
        exact ih _
    have h := key xs ByteArray.empty
    refine Eq.trans (congrArg (fun r => Result.andThen r _) h) ?_
    simp only [Result.andThen_ok, Sem.run_pure]; rfl

section
variable {n : Nat} {env : Env} {o : Oper}
theorem g_tostr (T : Ty P) {H : Hp} {t t' E cap : Nat} {x : Operand} {a : Option Addr} {xs : List Int} (hop : o.op = .convert t t' x) (hx : ev env x = some (.slice a xs.length cap))
    (hu : T.und t = some (.slice E)) (hu' : T.und t' = some .string) (hE : T.und E = some (.int .u8)) (sr : SliceR (Fl.int .u8) xs a H) : Gives W P n env H o (.string (strB xs)) := by
  intro t1 w s ow
  unfold execOp
  simp only [hop, ev_eval s hx]
  have := run_bytes (P := P) sr ow cap
  simp [convert, run_und hu, run_und hu', run_und hE, this]
theorem g_streq {H : Hp} {t yt : TypeId} {x y : Operand} {a b : List Int} (hop : o.op = .binOp .eql t x y yt) (hx : ev env x = some (.string (strB a))) (hy : ev env y = some (.string (strB b))) : Gives W P n env H o (.bool (strEq a b)) := by
  intro t1 w s ow
  unfold execOp
  simp only [hop, ev_eval s hx, ev_eval s hy]
  simp [eqGuard, binOp, Op.stringOp, strEq]
end
end
end Go.Hx
