/- The logic of this claim, further rules: maps, elements that own slices, and more. -/
import Derived.Test.YtnkdnecilkafhaaDoorHx
import Derived.MapKept
import Derived.Maps.RangeRun
import Derived.LaidEql
import Derived.Lib.MakeNoZero
namespace Go.Hx
set_option linter.unusedVariables false
set_option linter.unusedSimpArgs false
set_option linter.unusedSectionVars false
section
variable {W : World}
variable {P : Program}

/-! ### maps -/
section model
variable {κ α : Type} [DecidableEq κ]
def mget : List (κ × α) → κ → Option α
  | [], _ => none
  | e :: r, x => if e.1 = x then some e.2 else mget r x
def mhas (m : List (κ × α)) (x : κ) : Bool := (mget m x).isSome
def mval [Inhabited α] (m : List (κ × α)) (x : κ) : α := (mget m x).getD default
def mset : List (κ × α) → κ → α → List (κ × α)
  | [], x, v => [(x, v)]
  | e :: r, x, v => if e.1 = x then (x, v) :: r else e :: mset r x v
def mdel : List (κ × α) → κ → List (κ × α)
  | [], _ => []
  | e :: r, x => if e.1 = x then r else e :: mdel r x
def mpos : List (κ × α) → κ → Option Nat
  | [], _ => none
  | e :: r, x => if e.1 = x then some 0 else (mpos r x).map (· + 1)

theorem mpos_none {m : List (κ × α)} {x : κ} (h : mpos m x = none) : mget m x = none := by
  induction m with
  | nil => rfl
  | cons e r ih =>
    simp only [mpos, mget] at h ⊢
    split at h
    · cases h
    · rename_i hk
      rw [if_neg hk]
      exact ih (by simpa using h)
theorem mpos_some {m : List (κ × α)} {x : κ} {i : Nat} (h : mpos m x = some i) : ∃ v, mget m x = some v ∧ m[i]? = some (x, v) := by
  induction m generalizing i with
  | nil => cases h
  | cons e r ih =>
    simp only [mpos, mget] at h ⊢
    split at h
    · rename_i hk
      simp at h; subst h
      exact ⟨e.2, by rw [if_pos hk], by simp [← hk]⟩
    · rename_i hk
      cases hr : mpos r x with
      | none => simp [hr] at h
      | some j =>
        simp [hr] at h; subst h
        obtain ⟨v, h1, h2⟩ := ih hr
        exact ⟨v, by rw [if_neg hk]; exact h1, by simpa using h2⟩
end model

/-- a kind of keys -/
structure Ky (P : Program) (t : TypeId) (κ : Type) [DecidableEq κ] where
  enc : κ → Value
  check : ∀ (e : Bool) (w : World) (x : κ), (Instr.checkKey e 10000 t (enc x)).run P w = .ok () w
  find : ∀ (w : World) (x : κ) (es : List MapEntry) (ks : List κ), es.map (·.key) = ks.map enc →
    (Instr.findKey t (enc x) es).run P w = .ok ((mpos (ks.map fun k => (k, ())) x).bind fun i => (es[i]?).map fun e => (i, e.val)) w
  stays : ∀ (w : World) (x : κ), (Instr.keyThatStays (enc x) (enc x)).run P w = .ok (enc x) w

theorem findNow_int {q : IntKind} {x : Int} : ∀ (es : List MapEntry) (ks : List Int) (j : Nat), es.map (·.key) = ks.map (fun k => Value.int q k) →
    Instr.findNow (.int q) (.int q x) es j = some ((mpos (ks.map fun k => (k, ())) x).bind fun i => (es[i]?).map fun e => (i + j, e.val))
  | [], [], _, _ => rfl
  | [], _ :: _, _, h => by simp at h
  | _ :: _, [], _, h => by simp at h
  | e :: es, k :: ks, j, h => by
    simp only [List.map_cons, List.cons.injEq] at h
    obtain ⟨h1, h2⟩ := h
    simp only [Instr.findNow, h1, Instr.sameNow, if_true, List.map_cons, mpos]
    by_cases hk : k = x
    · subst hk; simp
    · have : (x == k) = false := by simp [Ne.symm hk]
      simp only [this, hk, if_false]
      rw [findNow_int es ks (j + 1) h2]
      cases hp : mpos (ks.map fun k => (k, ())) x with
      | none => simp
      | some i =>
        simp only [Option.map_some, Option.bind_some, List.getElem?_cons_succ]
        rw [show i + 1 + j = i + (j + 1) by omega]

def Ky.int {P : Program} {t : TypeId} (q : IntKind) (ht : P.underlying t = some (.int q)) : Ky P t Int where
  enc := fun x => .int q x
  check := fun e w x => MapKept.run_checkKey ht (by simp [MapKept.IsKey]) e 9999
  find := fun w x es ks h => by
    have := findNow_int (x := x) es ks 0 h
    simpa using MapKept.run_findKey (w := w) ht this
  stays := fun w x => MapKept.run_keyThatStays (d := .int q) (by simp [MapKept.IsKey])

section objs
variable {κ α : Type} [DecidableEq κ] {t : TypeId}
def ents (K : Ky P t κ) (kv : α → Value) : List (κ × α) → List Nat → List MapEntry
  | e :: r, b :: bs => ⟨K.enc e.1, kv e.2, b⟩ :: ents K kv r bs
  | _, _ => []

theorem ents_keys (K : Ky P t κ) (kv : α → Value) : ∀ (m : List (κ × α)) (bs : List Nat), bs.length = m.length → (ents K kv m bs).map (·.key) = (m.map (·.1)).map K.enc
  | [], [], _ => rfl
  | [], _ :: _, h => by simp at h
  | _ :: _, [], h => by simp at h
  | e :: r, b :: bs, h => by simp [ents, ents_keys K kv r bs (by simpa using h)]
theorem ents_length (K : Ky P t κ) (kv : α → Value) (m : List (κ × α)) (bs : List Nat) (h : bs.length = m.length) : (ents K kv m bs).length = m.length := by
  have := congrArg List.length (ents_keys K kv m bs h); simpa using this
theorem ents_get (K : Ky P t κ) (kv : α → Value) : ∀ (m : List (κ × α)) (bs : List Nat) (i : Nat) (e : κ × α), bs.length = m.length → m[i]? = some e → ∃ b, (ents K kv m bs)[i]? = some ⟨K.enc e.1, kv e.2, b⟩ ∧ bs[i]? = some b
  | [], _, _, _, _, h => by simp at h
  | _ :: _, [], _, _, h, _ => by simp at h
  | e :: r, b :: bs, 0, e', _, h => by simp at h; subst h; exact ⟨b, rfl, rfl⟩
  | e :: r, b :: bs, i + 1, e', hl, h => by
    obtain ⟨b', h1⟩ := ents_get K kv r bs i e' (by simpa using hl) (by simpa using h)
    exact ⟨b', by simpa [ents] using h1⟩

theorem mpos_keys (m : List (κ × α)) (x : κ) : mpos ((m.map (·.1)).map fun k => (k, ())) x = mpos m x := by
  induction m with
  | nil => rfl
  | cons e r ih => simp only [List.map_cons, mpos, ih]

theorem run_find (K : Ky P t κ) (kv : α → Value) (w : World) (m : List (κ × α)) (bs : List Nat) (x : κ) (h : bs.length = m.length) :
    (Instr.findKey t (K.enc x) (ents K kv m bs)).run P w = .ok ((mpos m x).bind fun i => (m[i]?).map fun e => (i, kv e.2)) w := by
  rw [K.find w x _ (m.map (·.1)) (ents_keys K kv m bs h), mpos_keys]
  congr 1
  cases hp : mpos m x with
  | none => rfl
  | some i =>
    obtain ⟨v, _, h2⟩ := mpos_some hp
    obtain ⟨b, h3, _⟩ := ents_get K kv m bs i _ h h2
    simp [h2, h3]

theorem ents_push (K : Ky P t κ) (kv : α → Value) : ∀ (m : List (κ × α)) (bs : List Nat) (x : κ) (v : α) (c : Nat), bs.length = m.length → mpos m x = none →
    ents K kv m bs ++ [⟨K.enc x, kv v, c⟩] = ents K kv (mset m x v) (bs ++ [c])
  | [], [], x, v, c, _, _ => rfl
  | [], _ :: _, _, _, _, h, _ => by simp at h
  | _ :: _, [], _, _, _, h, _ => by simp at h
  | e :: r, b :: bs, x, v, c, h, hp => by
    simp only [mpos] at hp
    split at hp
    · cases hp
    · rename_i hk
      have := ents_push K kv r bs x v c (by simpa using h) (by simpa using hp)
      simp only [ents, List.cons_append, this, mset, hk, if_false]
theorem mset_len_none {m : List (κ × α)} {x : κ} {v : α} (h : mpos m x = none) : (mset m x v).length = m.length + 1 := by
  induction m with
  | nil => rfl
  | cons e r ih =>
    simp only [mpos] at h
    split at h
    · cases h
    · rename_i hk; simp [mset, hk, ih (by simpa using h)]
theorem mset_len_some {m : List (κ × α)} {x : κ} {v : α} {i : Nat} (h : mpos m x = some i) : (mset m x v).length = m.length := by
  induction m generalizing i with
  | nil => cases h
  | cons e r ih =>
    simp only [mpos] at h
    simp only [mset]
    split at h
    · rename_i hk; simp [hk]
    · rename_i hk
      cases hr : mpos r x with
      | none => simp [hr] at h
      | some j => simp [hk, ih hr]
theorem ents_modify (K : Ky P t κ) (kv : α → Value) : ∀ (m : List (κ × α)) (bs : List Nat) (x : κ) (v : α) (i : Nat), bs.length = m.length → mpos m x = some i →
    (ents K kv m bs).modify i (fun e => { e with key := K.enc x, val := kv v }) = ents K kv (mset m x v) bs
  | [], _, _, _, _, _, h => by cases h
  | _ :: _, [], _, _, _, h, _ => by simp at h
  | e :: r, b :: bs, x, v, i, h, hp => by
    simp only [mpos] at hp
    split at hp
    · rename_i hk
      simp at hp; subst hp
      simp [ents, mset, hk]
    · rename_i hk
      cases hr : mpos r x with
      | none => simp [hr] at hp
      | some j =>
        simp [hr] at hp; subst hp
        have := ents_modify K kv r bs x v j (by simpa using h) hr
        simp [ents, mset, hk, this]
theorem ents_erase (K : Ky P t κ) (kv : α → Value) : ∀ (m : List (κ × α)) (bs : List Nat) (x : κ) (i : Nat), bs.length = m.length → mpos m x = some i →
    (ents K kv m bs).eraseIdx i = ents K kv (mdel m x) (bs.eraseIdx i) ∧ (bs.eraseIdx i).length = (mdel m x).length
  | [], _, _, _, _, h => by cases h
  | _ :: _, [], _, _, h, _ => by simp at h
  | e :: r, b :: bs, x, i, h, hp => by
    simp only [mpos] at hp
    split at hp
    · rename_i hk
      simp at hp; subst hp
      simp [ents, mdel, hk]; simpa using h
    · rename_i hk
      cases hr : mpos r x with
      | none => simp [hr] at hp
      | some j =>
        simp [hr] at hp; subst hp
        have := ents_erase K kv r bs x j (by simpa using h) hr
        simp [ents, mdel, hk, this]
theorem mdel_none {m : List (κ × α)} {x : κ} (h : mpos m x = none) : mdel m x = m := by
  induction m with
  | nil => rfl
  | cons e r ih =>
    simp only [mpos] at h
    split at h
    · cases h
    · rename_i hk; simp [mdel, hk, ih (by simpa using h)]

/-- a map that may be read -/
def MapR (K : Ky P t κ) (kv : α → Value) (m : List (κ × α)) (r : Nat) (H : Hp) : Prop :=
  ∃ bs c, bs.length = m.length ∧ (r, Obj.map (ents K kv m bs).toArray c) ∈ H
/-- a map that is owned -/
def MapO (K : Ky P t κ) (kv : α → Value) (m : List (κ × α)) (r : Nat) (H : Hp) : Prop :=
  ∃ bs c, bs.length = m.length ∧ (bs.Nodup ∧ ∀ b ∈ bs, b < c) ∧ H = [(r, Obj.map (ents K kv m bs).toArray c)]
theorem MapO.r {K : Ky P t κ} {kv : α → Value} {m : List (κ × α)} {r : Nat} {H : Hp} (h : MapO K kv m r H) : MapR K kv m r H := by
  obtain ⟨bs, c, h1, _, rfl⟩ := h
  exact ⟨bs, c, h1, List.mem_cons_self ..⟩
theorem MapR.mono {K : Ky P t κ} {kv : α → Value} {m : List (κ × α)} {r : Nat} {H H' : Hp} (h : MapR K kv m r H) (hs : ∀ c ∈ H, c ∈ H') : MapR K kv m r H' := by
  obtain ⟨bs, c, h1, h2⟩ := h
  exact ⟨bs, c, h1, hs _ h2⟩
theorem mown_of {K : Ky P t κ} {kv : α → Value} {HL : List Hp} {j : Nat} {Hj : Hp} {m : List (κ × α)} {r : Nat} (h : MapO K kv m r Hj) (hj : idx j HL = some Hj) : MapR K kv m r HL.flatten :=
  h.r.mono fun _ hc => mem_group (by rw [← idx_eq]; exact hj) hc
theorem mro_of {K : Ky P t κ} {kv : α → Value} {HL : List Hp} {j : Nat} {Hj : Hp} {m : List (κ × α)} {r : Nat} (h : MapR K kv m r Hj) (hj : idx j HL = some Hj) : MapR K kv m r HL.flatten :=
  h.mono fun _ hc => mem_group (by rw [← idx_eq]; exact hj) hc

section rules
variable {T : Ty P} {n : Nat} {Q : Exit → Act → World → Prop} {env : Env} {H : Hp} {HL : List Hp} {ops : Array Oper} {i : Nat} {K : Act → World → Prop} {o : Oper}

theorem g_look [Inhabited α] (T : Ty P) {mt et : TypeId} (KK : Ky P t κ) (kv : α → Value) {x ix : Operand} {m : List (κ × α)} {r : Nat} {k : κ} {b : Bool} {sz by' : Nat}
    (hop : o.op = .lookup mt x ix b) (hx : ev env x = some (.map (some r))) (hk : ev env ix = some (KK.enc k)) (hu : T.und mt = some (.map t et))
    (hi : T.inf et = some (sz, by', kv default)) (hm : MapR KK kv m r H) :
    Gives W P n env H o (bif b then .tuple #[kv (mval m k), .bool (mhas m k)] else kv (mval m k)) := by
  intro t' w s ow
  obtain ⟨bs, c, hl, hm⟩ := hm
  have hb := ow.lookup hm
  unfold execOp
  have h1 := run_find KK kv w m bs k hl
  have h0 : (Instr.lookup mt (.map (some r)) (KK.enc k) b).run P w = .ok (bif b then .tuple #[kv (mval m k), .bool (mhas m k)] else kv (mval m k)) w := by
    simp only [Instr.lookup, Sem.run_bind, run_und hu, Result.andThen_ok, MapKept.run_getObj_map hb, KK.check, h1]
    cases hp : mpos m k with
    | none =>
      have := mpos_none hp
      cases b <;> simp [mval, mhas, this, run_zero hi, Result.andThen, h1, hp]
    | some j =>
      obtain ⟨v, h2, h3⟩ := mpos_some hp
      cases b <;> simp [mval, mhas, h2, h3, Result.andThen, h1, hp]
  simp only [hop, ev_eval s hx, ev_eval s hk, Sem.run_bind, h0, Result.andThen_ok]
  rfl

theorem g_mlen (T : Ty P) {mt et : TypeId} (KK : Ky P t κ) (kv : α → Value) {x : Operand} {m : List (κ × α)} {r : Nat}
    (hop : o.op = .call ⟨.builtin .len, #[x], #[mt]⟩) (hx : ev env x = some (.map (some r))) (hu : T.und mt = some (.map t et)) (hm : MapR KK kv m r H) :
    Gives W P n env H o (.int .i64 (m.length : Nat)) := by
  intro t' w s ow
  obtain ⟨bs, c, hl, hm⟩ := hm
  have hb := ow.lookup hm
  obtain ⟨cs, hr⟩ := run_builtin (P := P) (t := t') w hop
  rw [hr]
  simp only [List.map_toArray, List.map_cons, List.map_nil, ev_eval s hx, builtin, Builtin.len_, Sem.run_bind, List.getElem?_toArray, List.getElem?_cons_zero, Sem.run_pure, Result.andThen_ok, run_und hu, MapKept.run_getObj_map hb]
  simp [goInt, ents_length KK kv m bs hl]

theorem setObj_own {w : World} {b : Nat} {es es' : Array MapEntry} {c c' : Nat} {Hr : Hp} (ow : Own W w ((b, .map es c) :: Hr)) :
    ∃ w', (setObj b (.map es' c')).run P w = .ok () w' ∧ Own W w' ((b, .map es' c') :: Hr) := by
  have hb := ow.lookup (List.mem_cons_self ..)
  refine ⟨_, MapKept.run_setObj_map _ hb, ?_⟩
  exact ow.turn (o' := .map es' c') (by rfl) rfl rfl rfl

theorem at_mm (T : Ty P) {d mt et : TypeId} (KK : Ky P t κ) (kv : α → Value) {rv : Option Operand} (hs : slot n ops env i = some (o, d)) (hop : o.op = .makeMap mt rv) (hu : T.und mt = some (.map t et))
    (hr : match rv with | none => True | some x => ∃ k j, ev env x = some (.int k j))
    (h : ∀ r H', MapO KK kv ([] : List (κ × α)) r H' → AtL W n K ((d, .map (some r)) :: env) (HL ++ [H'])) : AtL W n (wpOp P ops Q i K) env HL := by
  obtain ⟨ho, hw, hd, hn⟩ := slot_spec hs
  refine at_val_w (β := { p : Nat × Hp // MapO KK kv ([] : List (κ × α)) p.1 p.2 }) (V := fun p => .map (some p.1.1)) (G := fun p => (HL ++ [p.1.2]).flatten) ho hw hd hn (fun tt w s ow => ?_) (fun p => h _ _ p.2)
  refine ⟨⟨(w.heap.size, [(w.heap.size, .map #[] 0)]), ⟨[], 0, rfl, by simp, rfl⟩⟩, w.alloc (.map #[] 0), ?_, own_group_new _ ow⟩
  unfold execOp
  cases rv with
  | none => simp [hop, Instr.makeMap]
  | some x =>
    obtain ⟨k, j, hx⟩ := hr
    simp [hop, Instr.makeMap, run_und hu, ev_eval s hx, asInt, asIntOf]

theorem update_run (T : Ty P) {mt et : TypeId} (KK : Ky P t κ) (kv : α → Value) {m : List (κ × α)} {r g : Nat} {k : κ} {v : α} {Hj : Hp} {w : World}
    (hu : T.und mt = some (.map t et)) (hj : idx g HL = some Hj) (so : MapO KK kv m r Hj) (ow : Own W w HL.flatten) :
    ∃ H' w', (Instr.mapUpdate mt (.map (some r)) (KK.enc k) (kv v)).run P w = .ok () w' ∧ MapO KK kv (mset m k v) r H' ∧ Own W w' (HL.set g H').flatten := by
  obtain ⟨bs, c, hl, ⟨hn, hc⟩, rfl⟩ := so
  have hj' : HL[g]? = some [(r, Obj.map (ents KK kv m bs).toArray c)] := by rw [← idx_eq]; exact hj
  have ow1 := own_get hj' ow
  have hb := ow1.lookup (b := r) (o := Obj.map (ents KK kv m bs).toArray c) (by simp)
  have h1 := run_find KK kv w m bs k hl
  cases hp : mpos m k with
  | none =>
    obtain ⟨w', hr, ow'⟩ := setObj_own (P := P) (es' := ((ents KK kv m bs).toArray.push ⟨KK.enc k, kv v, c⟩)) (c' := c + 1) (by simpa using ow1)
    refine ⟨[(r, .map (ents KK kv (mset m k v) (bs ++ [c])).toArray (c + 1))], w', ?_, ⟨bs ++ [c], c + 1, by simp [mset_len_none hp, hl], ⟨?_, ?_⟩, rfl⟩, own_set hj' ?_⟩
    · simp only [Instr.mapUpdate, Sem.run_bind, run_und hu, Result.andThen_ok, MapKept.run_getObj_map hb, KK.check, h1, hp, Option.bind_none, hr]
    · rw [List.nodup_append]
      exact ⟨hn, by simp, fun a ha b hb => by simp at hb; subst hb; exact Nat.ne_of_lt (hc a ha)⟩
    · intro b hb
      rcases List.mem_append.1 hb with hb | hb
      · exact Nat.lt_succ_of_lt (hc b hb)
      · simp at hb; omega
    · rw [← ents_push KK kv m bs k v c hl hp]
      simpa using ow'
  | some j =>
    obtain ⟨v0, h2, h3⟩ := mpos_some hp
    obtain ⟨b0, h4, h5⟩ := ents_get KK kv m bs j _ hl h3
    obtain ⟨w', hr, ow'⟩ := setObj_own (P := P) (es' := ((ents KK kv m bs).toArray.modify j fun e => { e with key := KK.enc k, val := kv v })) (c' := c) (by simpa using ow1)
    refine ⟨[(r, .map (ents KK kv (mset m k v) bs).toArray c)], w', ?_, ⟨bs, c, by rw [mset_len_some hp, hl], ⟨hn, hc⟩, rfl⟩, own_set hj' ?_⟩
    · simp only [Instr.mapUpdate, Sem.run_bind, run_und hu, Result.andThen_ok, MapKept.run_getObj_map hb, KK.check, h1, hp, Option.bind_some, h3, Option.map_some]
      simp only [List.getElem?_toArray, h4, Option.map_some, Option.getD_some, KK.stays, Result.andThen_ok, hr]
    · rw [← ents_modify KK kv m bs k v j hl hp]
      simpa using ow'

theorem at_mu (T : Ty P) {mt et : TypeId} (KK : Ky P t κ) (kv : α → Value) {x ix y : Operand} {m : List (κ × α)} {r g : Nat} {k : κ} {v : α} {Hj : Hp}
    (hs : slot0 ops env i = some o) (hop : o.op = .mapUpdate mt x ix y) (hx : ev env x = some (.map (some r))) (hk : ev env ix = some (KK.enc k)) (hy : ev env y = some (kv v))
    (hu : T.und mt = some (.map t et)) (hj : idx g HL = some Hj) (so : MapO KK kv m r Hj)
    (h : ∀ H', MapO KK kv (mset m k v) r H' → AtL W n K env (HL.set g H')) : AtL W n (wpOp P ops Q i K) env HL := by
  obtain ⟨ho, hw, hd⟩ := slot0_spec hs
  refine at_unit_w (β := { H' : Hp // MapO KK kv (mset m k v) r H' }) (G := fun p => (HL.set g p.1).flatten) ho hw hd (fun tt w s ow => ?_) (fun p => h _ p.2)
  obtain ⟨H', w', hr, hso, ow'⟩ := update_run (P := P) T (v := v) (k := k) KK kv hu hj so ow
  refine ⟨⟨H', hso⟩, w', .inl ?_, ow'⟩
  unfold execOp
  simp only [hop, ev_eval s hx, ev_eval s hk, ev_eval s hy, Sem.run_bind, hr, Result.andThen_ok]
  rfl

theorem delete_run (T : Ty P) {mt et t2 ty : TypeId} (KK : Ky P t κ) (kv : α → Value) {m : List (κ × α)} {r g : Nat} {k : κ} {Hj : Hp} {w : World}
    (hu : T.und mt = some (.map t et)) (hj : idx g HL = some Hj) (so : MapO KK kv m r Hj) (ow : Own W w HL.flatten) :
    ∃ H' w', (Builtin.delete_ #[mt, t2] ty #[.map (some r), KK.enc k]).run P w = .ok (.tuple #[]) w' ∧ MapO KK kv (mdel m k) r H' ∧ Own W w' (HL.set g H').flatten := by
  obtain ⟨bs, c, hl, ⟨hn, hc⟩, rfl⟩ := so
  have hj' : HL[g]? = some [(r, Obj.map (ents KK kv m bs).toArray c)] := by rw [← idx_eq]; exact hj
  have ow1 := own_get hj' ow
  have hb := ow1.lookup (b := r) (o := Obj.map (ents KK kv m bs).toArray c) (by simp)
  have h1 := run_find KK kv w m bs k hl
  cases hp : mpos m k with
  | none =>
    obtain ⟨w', hr, ow'⟩ := setObj_own (P := P) (es' := (ents KK kv m bs).toArray) (c' := c) (by simpa using ow1)
    refine ⟨[(r, .map (ents KK kv (mdel m k) bs).toArray c)], w', ?_, ⟨bs, c, by rw [mdel_none hp, hl], ⟨hn, hc⟩, rfl⟩, own_set hj' ?_⟩
    · simp [Builtin.delete_, run_und hu, MapKept.run_getObj_map hb, KK.check, h1, hp, hr]
    · rw [mdel_none hp]; simpa using ow'
  | some j =>
    obtain ⟨v0, h2, h3⟩ := mpos_some hp
    obtain ⟨e1, e2⟩ := ents_erase KK kv m bs k j hl hp
    obtain ⟨w', hr, ow'⟩ := setObj_own (P := P) (es' := ((ents KK kv m bs).toArray.eraseIdxIfInBounds j)) (c' := c) (by simpa using ow1)
    have this : ((ents KK kv m bs).toArray.eraseIdxIfInBounds j) = ((ents KK kv m bs).eraseIdx j).toArray := by apply Array.ext'; simp
    rw [this] at hr ow'
    refine ⟨[(r, .map (ents KK kv (mdel m k) (bs.eraseIdx j)).toArray c)], w', ?_, ⟨bs.eraseIdx j, c, e2, ⟨hn.sublist (List.eraseIdx_sublist ..), fun b hb => hc b (List.mem_of_mem_eraseIdx hb)⟩, rfl⟩, own_set hj' ?_⟩
    · simp [Builtin.delete_, run_und hu, MapKept.run_getObj_map hb, KK.check, h1, hp, h3, hr]
    · rw [← e1]
      simpa using ow'

theorem at_md (T : Ty P) {mt t2 et : TypeId} (KK : Ky P t κ) (kv : α → Value) {x ix : Operand} {m : List (κ × α)} {r g : Nat} {k : κ} {Hj : Hp}
    (ho : ops[i]? = some o) (hw : want ops env o = some true) (hd : o.dst = none) (hop : o.op = .call ⟨.builtin .delete, #[x, ix], #[mt, t2]⟩) (hx : ev env x = some (.map (some r))) (hk : ev env ix = some (KK.enc k))
    (hu : T.und mt = some (.map t et)) (hj : idx g HL = some Hj) (so : MapO KK kv m r Hj)
    (h : ∀ H', MapO KK kv (mdel m k) r H' → AtL W n K env (HL.set g H')) : AtL W n (wpOp P ops Q i K) env HL := by
  refine at_unit_w (β := { H' : Hp // MapO KK kv (mdel m k) r H' }) (G := fun p => (HL.set g p.1).flatten) ho hw hd (fun tt w s ow => ?_) (fun p => h _ p.2)
  obtain ⟨H', w', hr, hso, ow'⟩ := delete_run (P := P) T (t2 := t2) (ty := o.type) (k := k) KK kv hu hj so ow
  refine ⟨⟨H', hso⟩, w', .inr ⟨.tuple #[], ?_⟩, ow'⟩
  obtain ⟨cs, hb⟩ := run_builtin (P := P) (t := tt) w hop
  rw [hb]
  simp only [List.map_toArray, List.map_cons, List.map_nil, ev_eval s hx, ev_eval s hk, builtin, Sem.run_bind]
  refine Eq.trans (congrArg (fun r => Result.andThen r _) hr) ?_
  simp only [Result.andThen_ok, Sem.run_pure]
end rules
end objs
end

section
variable {W : World}
variable {P : Program}

theorem arr_1 {α : Type} {cs : Array α} (h : cs.size = 1) : ∃ a, cs = #[a] := by
  match cs, h with
  | ⟨[a]⟩, _ => exact ⟨a, rfl⟩
theorem arr_2 {α : Type} {cs : Array α} (h : cs.size = 2) : ∃ a b, cs = #[a, b] := by
  match cs, h with
  | ⟨[a, b]⟩, _ => exact ⟨a, b, rfl⟩
theorem arr_3 {α : Type} {cs : Array α} (h : cs.size = 3) : ∃ a b c, cs = #[a, b, c] := by
  match cs, h with
  | ⟨[a, b, c]⟩, _ => exact ⟨a, b, c, rfl⟩
theorem arr_4 {α : Type} {cs : Array α} (h : cs.size = 4) : ∃ a b c d, cs = #[a, b, c, d] := by
  match cs, h with
  | ⟨[a, b, c, d]⟩, _ => exact ⟨a, b, c, d, rfl⟩

/-! ### two structs of plain things: are they equal -/
def eqPrim (T : Ty P) (t : TypeId) (a b : Value) : Option Bool :=
  match T.und t, a, b with
  | some (.int _), .int k x, .int k' y => bif ikeq k k' then some (x == y) else none
  | some .bool, .bool x, .bool y => some (x == y)
  | _, _, _ => none
theorem eqPrim_run {T : Ty P} {t : TypeId} {a b : Value} {e : Bool} (h : eqPrim T t a b = some e) (d : Nat) (w : World) : (Op.equalIn (d + 1) t a b).run P w = .ok e w := by
  unfold eqPrim at h
  split at h
  · rename_i hu
    rename_i k x k' y
    cases hk : ikeq k k' <;> simp [hk] at h
    subst h
    obtain rfl := ikeq_eq hk
    simp only [Op.equalIn, Sem.run_bind, run_und hu, Result.andThen_ok, if_true, Sem.run_pure]
  · rename_i hu
    simp at h; subst h
    simp only [Op.equalIn, Sem.run_bind, run_und hu, Result.andThen_ok, Sem.run_pure]
  · cases h

def eqL (T : Ty P) (xs ys : List Value) : List Field → Option Bool
  | [] => some true
  | f :: r => match partL T f.type xs f.offset, partL T f.type ys f.offset with
    | some a, some b => match eqPrim T f.type a b, eqL T xs ys r with
      | some e, some e' => some (e && e')
      | _, _ => none
    | _, _ => none

theorem eqL_run {T : Ty P} {xs ys : Array Value} (d : Nat) (w : World) : ∀ (fs : List Field) (e : Bool), (∀ f ∈ fs, f.name ≠ "_") → eqL T xs.toList ys.toList fs = some e →
    (forIn (m := Sem) fs (⟨none, ()⟩ : Option Bool × Unit) fun f _ => do
      if f.name ≠ "_" then
        if !(← Op.equalIn (d + 1) f.type (← part f.type xs f.offset) (← part f.type ys f.offset)) then pure (ForInStep.done ⟨some false, ()⟩) else pure (ForInStep.yield ⟨none, ()⟩)
      else pure (ForInStep.yield ⟨none, ()⟩)).run P w = .ok (if e then ⟨none, ()⟩ else ⟨some false, ()⟩) w := by
  intro fs
  induction fs with
  | nil => intro e _ h; simp [eqL] at h; subst h; simp
  | cons f r ih =>
    intro e hn h
    simp only [eqL] at h
    split at h
    · rename_i a b h1 h2
      split at h
      · rename_i e1 e2 h3 h4
        simp at h; subst h
        have hf := hn f (by simp)
        rw [List.forIn_cons]
        simp only [hf, ne_eq, not_false_eq_true, if_true, Sem.run_bind, partL_run h1, partL_run h2, eqPrim_run h3, Result.andThen_ok]
        cases e1
        · simp
        · simp only [Bool.not_true, Bool.false_eq_true, if_false, Sem.run_pure, Result.andThen_ok, Bool.true_and]
          exact ih e2 (fun f hf => hn f (by simp [hf])) h4
      · cases h
    · cases h

theorem aeq_run {T : Ty P} {t : TypeId} {fs : Array Field} {xs ys : Array Value} {e : Bool} (hu : T.und t = some (.struct fs)) (hs : P.stoodInHeld t = false) (hn : fs.toList.all (fun f => f.name != "_") = true)
    (h : eqL T xs.toList ys.toList fs.toList = some e) (w : World) : (Op.equal t (.agg xs) (.agg ys)).run P w = .ok e w := by
  show (Op.equalIn (9998 + 1 + 1) t _ _).run P w = _
  generalize 9998 = d
  have hn' : ∀ f ∈ fs.toList, f.name ≠ "_" := fun f hf => by simpa using List.all_eq_true.1 hn f hf
  have := eqL_run (P := P) d w fs.toList e hn' h
  rw [Op.equalIn]
  simp only [Sem.run_bind, run_und hu, Result.andThen_ok, run_program, hs, Bool.false_eq_true, if_false]
  rw [← Array.forIn_toList]
  refine Eq.trans (congrArg (fun r => Result.andThen r _) this) ?_
  cases e <;> simp

section rules
variable {T : Ty P} {n : Nat} {env : Env} {H : Hp} {o : Oper}
theorem guard_no {w : World} {op : BinOp} {t : TypeId} {x y : Operand} {a b : Array Value} (h : P.eqGuardType P.depth t = false) : (eqGuard op t x y (.agg a) (.agg b)).run P w = .ok () w := by
  unfold eqGuard
  rw [Sem.run_ite]
  refine ite_both (fun _ => rfl) (fun _ => ?_)
  simp [h]
theorem g_aeq (T : Ty P) {t yt : TypeId} {x y : Operand} {fs : Array Field} {xs ys : Array Value} (e : Bool) (hop : o.op = .binOp .eql t x y yt) (hx : ev env x = some (.agg xs)) (hy : ev env y = some (.agg ys))
    (hu : T.und t = some (.struct fs)) (hs : P.stoodInHeld t = false ∧ P.eqGuardType P.depth t = false) (hn : fs.toList.all (fun f => f.name != "_") = true) (h : eqL T xs.toList ys.toList fs.toList = some e) :
    Gives W P n env H o (.bool e) := by
  intro t1 w s ow
  unfold execOp
  simp only [hop, ev_eval s hx, ev_eval s hy]
  simp only [Sem.run_bind, guard_no hs.2, Result.andThen_ok, binOp, aeq_run hu hs.1 hn h w, Sem.run_pure]
theorem g_aeqn (T : Ty P) {t yt : TypeId} {x y : Operand} {fs : Array Field} {xs ys : Array Value} (e : Bool) (hop : o.op = .binOp .neq t x y yt) (hx : ev env x = some (.agg xs)) (hy : ev env y = some (.agg ys))
    (hu : T.und t = some (.struct fs)) (hs : P.stoodInHeld t = false ∧ P.eqGuardType P.depth t = false) (hn : fs.toList.all (fun f => f.name != "_") = true) (h : eqL T xs.toList ys.toList fs.toList = some e) :
    Gives W P n env H o (.bool (!e)) := by
  intro t1 w s ow
  unfold execOp
  simp only [hop, ev_eval s hx, ev_eval s hy]
  simp only [Sem.run_bind, guard_no hs.2, Result.andThen_ok, binOp, aeq_run hu hs.1 hn h w, Sem.run_pure]
end rules
end

section
/-! ### plain things -/
theorem wi {x : Int} (h1 : -9223372036854775808 ≤ x) (h2 : x ≤ 9223372036854775807) : w64 x = x := by
  unfold w64 IntKind.wrap IntKind.signed IntKind.bits
  simp
  omega
theorem w8i {x : Int} (h1 : 0 ≤ x) (h2 : x ≤ 255) : wu8 x = x := by
  unfold wu8 IntKind.wrap IntKind.signed IntKind.bits
  simp
  omega
theorem w32i {x : Int} (h1 : 0 ≤ x) (h2 : x ≤ 4294967295) : wu32 x = x := by
  unfold wu32 IntKind.wrap IntKind.signed IntKind.bits
  simp
  omega
theorem w64_rng (x : Int) : inI64 (w64 x) := by
  unfold w64 IntKind.wrap IntKind.signed IntKind.bits inI64
  simp
  omega
theorem w8_rng (x : Int) : inU8 (wu8 x) := by
  unfold wu8 IntKind.wrap IntKind.signed IntKind.bits inU8
  simp
  omega
theorem fuelv : fuel = 18446744073709551616 := by unfold fuel; rfl
theorem kpos {n k : Nat} (h : n < k) : ∃ q, k = q + 1 := ⟨k - 1, by omega⟩

section lists
variable {α : Type} [Inhabited α]
theorem rds {L : List α} {i c : Int} {v : α} (h0 : 0 ≤ i) (h1 : i < L.length) (c0 : 0 ≤ c) : rd (List.set L i.toNat v) c = if c = i then v else rd L c := by
  unfold rd
  by_cases hc : c = i
  · subst hc; rw [if_pos rfl]; simp [List.getD, show c.toNat < L.length by omega]
  · rw [if_neg hc]
    have : i.toNat ≠ c.toNat := by omega
    simp [List.getD, this]
theorem rda {L : List α} {v : α} {c : Int} (c0 : 0 ≤ c) (h : c ≤ L.length) : rd (L ++ [v]) c = if c = L.length then v else rd L c := by
  unfold rd
  by_cases hc : c = L.length
  · rw [if_pos hc, hc]; simp [List.getD]
  · rw [if_neg hc]
    simp [List.getD, List.getElem?_append_left (show c.toNat < L.length by omega)]
theorem rdl {L M : List α} {c : Int} (c0 : 0 ≤ c) (h : c < L.length) : rd (L ++ M) c = rd L c := by
  unfold rd
  simp [List.getD, List.getElem?_append_left (show c.toNat < L.length by omega)]
theorem rdr {L M : List α} {c : Int} (h : L.length ≤ c) : rd (L ++ M) c = rd M (c - L.length) := by
  unfold rd
  have h1 : ¬ c.toNat < L.length := by omega
  simp [List.getD, List.getElem?_append_right (show L.length ≤ c.toNat by omega), show (c - (L.length : Int)).toNat = c.toNat - L.length by omega]
theorem rdrep {n : Nat} {v : α} {c : Int} (c0 : 0 ≤ c) (h : c < n) : rd (List.replicate n v) c = v := by
  unfold rd
  simp [List.getD, show c.toNat < n by omega]
theorem rdmap {β : Type} [Inhabited β] {L : List β} {f : β → α} {c : Int} (c0 : 0 ≤ c) (h : c < L.length) : rd (L.map f) c = f (rd L c) := by
  unfold rd
  simp [List.getD, show c.toNat < L.length by omega]
theorem rdn {L : List α} {n : Nat} (h : n < L.length) : rd L (n : Int) = L[n] := by simp [rd, h]
theorem dropc {a : List α} {i : Int} (h0 : 0 ≤ i) (h1 : i < a.length) : a.drop i.toNat = rd a i :: a.drop (i + 1).toNat := by
  have hlt : i.toNat < a.length := by omega
  rw [rd_eq hlt, show (i + 1).toNat = i.toNat + 1 by omega]
  exact List.drop_eq_getElem_cons hlt
theorem takec {a : List α} {i : Int} (h0 : 0 ≤ i) (h1 : i < a.length) : a.take (i + 1).toNat = a.take i.toNat ++ [rd a i] := by
  have hlt : i.toNat < a.length := by omega
  rw [rd_eq hlt, show (i + 1).toNat = i.toNat + 1 by omega, List.take_add_one, List.getElem?_eq_getElem hlt]; rfl
theorem rdmem {a : List α} {i : Int} (h0 : 0 ≤ i) (h1 : i < a.length) : rd a i ∈ a := by
  have hlt : i.toNat < a.length := by omega
  rw [rd_eq hlt]; exact List.getElem_mem hlt
theorem memrd {a : List α} {x : α} (h : x ∈ a) : ∃ i : Int, 0 ≤ i ∧ i < a.length ∧ rd a i = x := by
  obtain ⟨n, hn, rfl⟩ := List.mem_iff_getElem.1 h
  exact ⟨n, by omega, by omega, rdn hn⟩
theorem rdext {a b : List α} (hl : a.length = b.length) (h : ∀ i : Int, 0 ≤ i → i < a.length → rd a i = rd b i) : a = b := by
  apply List.ext_getElem hl
  intro n h1 h2
  have := h n (by omega) (by omega)
  rwa [rdn h1, rdn h2] at this
theorem pairrd {a : List α} {R : α → α → Prop} (h : a.Pairwise R) {i j : Int} (h0 : 0 ≤ i) (h1 : i < j) (h2 : j < a.length) : R (rd a i) (rd a j) := by
  have hi : i.toNat < a.length := by omega
  have hj : j.toNat < a.length := by omega
  rw [rd_eq hi, rd_eq hj]
  exact List.pairwise_iff_getElem.1 h _ _ hi hj (by omega)
theorem rdpair {a : List α} {R : α → α → Prop} (h : ∀ i j : Int, 0 ≤ i → i < j → j < a.length → R (rd a i) (rd a j)) : a.Pairwise R := by
  rw [List.pairwise_iff_getElem]
  intro i j hi hj hij
  have := h i j (by omega) (by omega) (by omega)
  rwa [rdn hi, rdn hj] at this
end lists

section maps
variable {κ α : Type} [DecidableEq κ]
theorem mget_mset (m : List (κ × α)) (x y : κ) (v : α) : mget (mset m x v) y = if x = y then some v else mget m y := by
  induction m with
  | nil => simp [mset, mget]
  | cons e r ih =>
    simp only [mset, mget]
    by_cases h1 : e.1 = x
    · rw [if_pos h1]
      simp only [mget]
      by_cases h2 : x = y
      · simp [h2]
      · simp [h2, h1]
    · rw [if_neg h1]
      simp only [mget]
      by_cases h2 : e.1 = y
      · rw [if_pos h2, if_pos h2, if_neg (fun e' => h1 (h2.trans e'.symm))]
      · rw [if_neg h2, if_neg h2, ih]
theorem mget_none {m : List (κ × α)} {x : κ} : mget m x = none ↔ x ∉ m.map (·.1) := by
  induction m with
  | nil => simp [mget]
  | cons e r ih =>
    simp only [mget, List.map_cons, List.mem_cons, not_or]
    by_cases h : e.1 = x
    · rw [if_pos h]; simp [h]
    · rw [if_neg h, ih]
      exact ⟨fun q => ⟨fun z => h z.symm, q⟩, fun q => q.2⟩
theorem mget_mdel {m : List (κ × α)} (hn : (m.map (·.1)).Nodup) (x y : κ) : mget (mdel m x) y = if x = y then none else mget m y := by
  induction m with
  | nil => simp [mdel, mget]
  | cons e r ih =>
    simp only [List.map_cons, List.nodup_cons] at hn
    simp only [mdel, mget]
    by_cases h1 : e.1 = x
    · rw [if_pos h1]
      by_cases h2 : x = y
      · rw [if_pos h2, mget_none, ← h2, ← h1]; exact hn.1
      · rw [if_neg h2, if_neg (fun e' => h2 (h1.symm.trans e'))]
    · rw [if_neg h1]
      simp only [mget]
      by_cases h2 : e.1 = y
      · rw [if_pos h2, if_pos h2, if_neg (fun e' => h1 (h2.trans e'.symm))]
      · rw [if_neg h2, if_neg h2, ih hn.2]
theorem mhas_mset (m : List (κ × α)) (x y : κ) (v : α) : mhas (mset m x v) y = (decide (x = y) || mhas m y) := by
  unfold mhas; rw [mget_mset]
  by_cases h : x = y <;> simp [h]
theorem mhas_mdel {m : List (κ × α)} (hn : (m.map (·.1)).Nodup) (x y : κ) : mhas (mdel m x) y = (!decide (x = y) && mhas m y) := by
  unfold mhas; rw [mget_mdel hn]
  by_cases h : x = y <;> simp [h]
theorem mval_mset [Inhabited α] (m : List (κ × α)) (x y : κ) (v : α) : mval (mset m x v) y = if x = y then v else mval m y := by
  unfold mval; rw [mget_mset]
  by_cases h : x = y <;> simp [h]
theorem mval_mdel [Inhabited α] {m : List (κ × α)} (hn : (m.map (·.1)).Nodup) (x y : κ) : mval (mdel m x) y = if x = y then default else mval m y := by
  unfold mval; rw [mget_mdel hn]
  by_cases h : x = y <;> simp [h]
theorem mhas_iff {m : List (κ × α)} {x : κ} : mhas m x = true ↔ ∃ v, mget m x = some v := by
  unfold mhas; rw [Option.isSome_iff_exists]
theorem mval_some [Inhabited α] {m : List (κ × α)} {x : κ} {v : α} (h : mget m x = some v) : mval m x = v := by simp [mval, h]
theorem mhas_some {m : List (κ × α)} {x : κ} {v : α} (h : mget m x = some v) : mhas m x = true := by simp [mhas, h]
theorem mkeys_mset {m : List (κ × α)} {x : κ} {v : α} : (mset m x v).map (·.1) = if x ∈ m.map (·.1) then m.map (·.1) else m.map (·.1) ++ [x] := by
  induction m with
  | nil => simp [mset]
  | cons e r ih =>
    simp only [mset]
    by_cases h : e.1 = x
    · rw [if_pos h]; simp [h]
    · rw [if_neg h]
      have h' : ¬ x = e.1 := fun q => h q.symm
      simp only [List.map_cons, ih, List.mem_cons, h', false_or]
      split <;> simp
theorem mkeys_nodup {m : List (κ × α)} (hn : (m.map (·.1)).Nodup) (x : κ) (v : α) : ((mset m x v).map (·.1)).Nodup := by
  rw [mkeys_mset]
  split
  · exact hn
  · rw [List.nodup_append]
    exact ⟨hn, by simp, fun a ha b hb e => by simp at hb; subst hb; subst e; contradiction⟩
theorem mdel_sub {m : List (κ × α)} {x : κ} : (mdel m x).Sublist m := by
  induction m with
  | nil => simp [mdel]
  | cons e r ih =>
    simp only [mdel]
    by_cases h : e.1 = x
    · rw [if_pos h]; exact List.sublist_cons_self ..
    · rw [if_neg h]; exact ih.cons_cons e
theorem mdel_nodup {m : List (κ × α)} (hn : (m.map (·.1)).Nodup) (x : κ) : ((mdel m x).map (·.1)).Nodup := hn.sublist (mdel_sub.map _)
theorem mset_length {m : List (κ × α)} {x : κ} {v : α} : (mset m x v).length = if mhas m x = true then m.length else m.length + 1 := by
  induction m with
  | nil => simp [mset, mhas, mget]
  | cons e r ih =>
    simp only [mset]
    by_cases h : e.1 = x
    · rw [if_pos h]; simp [mhas, mget, h]
    · rw [if_neg h]
      have : mhas (e :: r) x = mhas r x := by simp [mhas, mget, h]
      rw [this]; simp only [List.length_cons, ih]; split <;> rfl
theorem mdel_length {m : List (κ × α)} {x : κ} : (mdel m x).length = if mhas m x = true then m.length - 1 else m.length := by
  induction m with
  | nil => simp [mdel, mhas, mget]
  | cons e r ih =>
    simp only [mdel]
    by_cases h : e.1 = x
    · rw [if_pos h]; simp [mhas, mget, h]
    · rw [if_neg h]
      have h2 : mhas (e :: r) x = mhas r x := by simp [mhas, mget, h]
      rw [h2]; simp only [List.length_cons, ih]
      split
      · rename_i hh
        have : r ≠ [] := by intro e'; subst e'; simp [mhas, mget] at hh
        have : 0 < r.length := List.length_pos_iff.2 this
        omega
      · rfl
end maps
end

section
variable {W : World}
variable {P : Program}

section rules
variable {T : Ty P} {n : Nat} {env : Env} {H : Hp} {HL : List Hp} {o : Oper}

/-! ### arrays -/
theorem g_abuild (T : Ty P) {t e len sz by' s2 b2 : Nat} {z z2 : Value} {parts : Array (Nat × Operand)} {vs : List (Nat × Value)} {cs : List Value} (hop : o.op = .build t parts)
    (hu : T.und t = some (.array len e)) (hi : T.inf t = some (s2, b2, z2)) (he : T.inf e = some (sz, by', z)) (hv : (parts.toList.mapM fun p => (ev env p.2).map fun v => (p.1, v)) = some vs)
    (hf : fillL (fun i => some (i * sz, sz)) (cellsL z2) vs = some cs) : Gives W P n env H o (.agg cs.toArray) := by
  intro t' w s ow
  unfold execOp
  have h1 : cellsL z2 = (z2.cells).toList := (cellsL_eq z2).symm
  rw [h1] at hf
  have h2 := fill_toList _ _ _ _ hf
  have h4 := evps_eval s hv
  have h6 : (parts.map fun (x : Nat × Operand) => (x.1, Act.eval ⟨t', []⟩ x.2)).toList = vs := by rw [← h4]; simp
  simp only [hop, Instr.build, Sem.run_bind, run_zero hi, Result.andThen_ok, run_und hu, run_size he, h6, h2, Sem.run_pure]

theorem g_aidx {α : Type} [Inhabited α] (T : Ty P) (k : Fl α) (xs : List α) {t e len sz by' : Nat} {z v : Value} {td : TypeDesc} {x ix : Operand} {kk : IntKind} {j : Int} (hop : o.op = .index t x ix)
    (hx : ev env x = some (.agg (row k xs).toArray)) (hix : ev env ix = some (.int kk j)) (hu : T.und t = some (.array len e)) (he : T.inf e = some (sz, by', z)) (hue : T.und e = some td) (ha : aggT td = false)
    (hk : k.size = sz) (hl : xs.length = len) (hb : 0 ≤ j ∧ j < (xs.length : Int)) (hv : idx 0 (k.enc (rd xs j)) = some v) : Gives W P n env H o v := by
  intro t' w s ow
  unfold execOp
  have hj : j.toNat < xs.length := by omega
  have hp := k.pos
  have hg := row_get k xs j.toNat 0 hj hp
  rw [rd_eq hj, idx_eq] at hv
  rw [hv, hk, Nat.add_zero] at hg
  have hc : 0 ≤ j ∧ j < (len : Int) := by omega
  have hpart : (part e (row k xs).toArray (j.toNat * sz)).run P w = .ok v w := by
    refine partL_run (T := T) ?_ w
    unfold partL
    simp only [hue, he, ha, cond_false, idx_eq]
    exact hg
  simp only [hop, ev_eval s hx, ev_eval s hix, Instr.index, asIntOf, Sem.run_bind, Sem.run_pure, Result.andThen_ok, run_und hu, Sem.run_ite, hc, and_self, if_true, run_size he, hpart]

/-! ### what is only read -/
theorem in_ro {F : Hp} {j b : Nat} {arr : Array Value} {E : TypeId} {fr : Nat × Nat} {off : Nat} {v : Value} (hm : (b, Obj.cells arr E fr) ∈ F) (hj : idx j HL = some F) (hv : idx off arr.toList = some v) :
    ∃ arr E fr, (b, Obj.cells arr E fr) ∈ HL.flatten ∧ arr[off]? = some v :=
  ⟨arr, E, fr, mem_group (by rw [← idx_eq]; exact hj) hm, by rw [idx_eq] at hv; simpa using hv⟩
theorem in_roA {F : Hp} {j b : Nat} {arr : Array Value} {E : TypeId} {fr : Nat × Nat} {off : Nat} {cs : List Value} (hm : (b, Obj.cells arr E fr) ∈ F) (hj : idx j HL = some F) (hv : (arr.toList.drop off).take cs.length = cs) :
    ∃ arr E fr, (b, Obj.cells arr E fr) ∈ HL.flatten ∧ ∀ j v, cs[j]? = some v → arr[off + j]? = some v :=
  ⟨arr, E, fr, mem_group (by rw [← idx_eq]; exact hj) hm, fun j v h => by
    rw [← hv] at h
    have hl := (List.getElem?_eq_some_iff.1 h).1
    rw [List.getElem?_take_of_lt (by simp at hl; omega), List.getElem?_drop] at h
    simpa using h⟩
theorem mem_ro {F : Hp} {j : Nat} {c : Nat × Obj} (hm : c ∈ F) (hj : idx j HL = some F) : c ∈ HL.flatten := mem_group (by rw [← idx_eq]; exact hj) hm
theorem mem_own {j b : Nat} {ob : Obj} {Hr : Hp} (hj : idx j HL = some ((b, ob) :: Hr)) : (b, ob) ∈ HL.flatten := mem_group (by rw [← idx_eq]; exact hj) (List.mem_cons_self ..)
end rules
/-- the head of a slice that is owned is owned -/
theorem SliceO.pre {α : Type} {k : Fl α} {E : TypeId} {xs : List α} {a : Option Addr} {cap : Nat} {H : Hp} {hi : Int} (so : SliceO k E xs a cap H) (h : 0 ≤ (0 : Int) ∧ 0 ≤ hi ∧ hi ≤ (xs.length : Int)) :
    SliceO k E (sub' xs 0 hi) (subA a cap (Int.toNat 0) k.size) (cap - Int.toNat 0) H := by
  have hs : subA a cap (Int.toNat 0) k.size = a := by
    unfold subA
    split
    · rfl
    · cases a with
      | none => rfl
      | some ad => simp [Addr.add]
  have hx : sub' xs 0 hi = xs.take hi.toNat := by simp [sub']
  rw [hs, hx, show cap - Int.toNat 0 = cap by simp]
  rcases so with ⟨h1, h2, h3, h4⟩ | ⟨b, pre, post, h1, h2, h3, h4⟩
  · exact .inl ⟨h1, by rw [h2]; simp, h3, h4⟩
  · refine .inr ⟨b, pre, row k (xs.drop hi.toNat) ++ post, h1, ?_, by simp; omega, ?_⟩
    · rw [h2]
      have : row k xs = row k (xs.take hi.toNat) ++ row k (xs.drop hi.toNat) := by rw [← row_append, List.take_append_drop]
      rw [this]; simp
    · simp only [List.length_append, row_length, List.length_drop, List.length_take]
      have e : (cap - min hi.toNat xs.length) * k.size ≤ (xs.length - hi.toNat + (cap - xs.length)) * k.size := Nat.mul_le_mul_right _ (by omega)
      rw [Nat.add_mul] at e; omega
end

section
variable {W : World}
variable {P : Program}
section
variable {α : Type} {k : Fl α} {n : Nat} {env : Env} {H : Hp} {o : Oper}
/-! ### slices that are nil just if there is nothing in them -/
theorem SliceO.isnil {E : TypeId} {xs : List α} {a : Option Addr} {cap : Nat} {Hj : Hp} (so : SliceO k E xs a cap Hj) (hc : xs = [] → a = none) : Option.isNone a = List.isEmpty xs := by
  cases a with
  | none =>
    rcases so with ⟨_, h, _, _⟩ | ⟨b, pre, post, h, _⟩
    · subst h; rfl
    · cases h
  | some ad =>
    cases xs with
    | nil => cases hc rfl
    | cons x r => rfl
theorem g_isnil (T : Ty P) {t yt e : TypeId} {x y : Operand} {a : Option Addr} {m cap n' c' : Nat} {E : TypeId} {xs : List α} {Hj : Hp} (hop : o.op = .binOp .eql t x y yt) (hx : ev env x = some (.slice a m cap)) (hy : ev env y = some (.slice none n' c'))
    (hu : T.und t = some (.slice e)) (so : SliceO k E xs a cap Hj) (hc : xs = [] → a = none) : Gives W P n env H o (.bool (List.isEmpty xs)) := by
  intro t1 w s ow
  unfold execOp
  simp only [hop, ev_eval s hx, ev_eval s hy]
  have h : binVal T .eql t (.slice a m cap) (.slice none n' c') = some (.bool a.isNone) := by simp [binVal, hu]
  rw [Sem.run_bind, binVal_run h w, so.isnil hc]; rfl
theorem g_isnoll (T : Ty P) {t yt e : TypeId} {x y : Operand} {a : Option Addr} {m cap n' c' : Nat} {E : TypeId} {xs : List α} {Hj : Hp} (hop : o.op = .binOp .neq t x y yt) (hx : ev env x = some (.slice a m cap)) (hy : ev env y = some (.slice none n' c'))
    (hu : T.und t = some (.slice e)) (so : SliceO k E xs a cap Hj) (hc : xs = [] → a = none) : Gives W P n env H o (.bool (!List.isEmpty xs)) := by
  intro t1 w s ow
  unfold execOp
  simp only [hop, ev_eval s hx, ev_eval s hy]
  have h : binVal T .neq t (.slice a m cap) (.slice none n' c') = some (.bool (!a.isNone)) := by simp [binVal, hu]
  rw [Sem.run_bind, binVal_run h w, so.isnil hc]; rfl
theorem no_nil {xs : List α} {a : Option Addr} (h : 0 < List.length xs) : xs = [] → a = none := fun e => by subst e; simp at h
theorem no_nil_app {xs ys : List α} {a : Option Addr} (h : List.isEmpty xs = false ∨ List.isEmpty ys = false) : xs ++ ys = [] → a = none := fun e => by
  rw [List.append_eq_nil_iff] at e
  rw [e.1, e.2] at h; simp at h
end
end

section
variable {W : World}
variable {P : Program}

/-! ### an array of slices, each of them owned -/
section
variable {α : Type} [Inhabited α] (k : Fl α) (E : TypeId)
def Lsr : List (List α) → List Value → Hp → Prop
  | [], vs, R => vs = [] ∧ R = []
  | x :: xs, vs, R => ∃ a c Hx vs' R', SliceO k E x a c Hx ∧ vs = .slice a x.length c :: vs' ∧ R = Hx ++ R' ∧ Lsr xs vs' R'
def LsO (n : Nat) (t : TypeId) (xs : List (List α)) (b : Nat) (H : Hp) : Prop :=
  xs.length = n ∧ ∃ vs R, Lsr k E xs vs R ∧ H = (b, Obj.cells vs.toArray t (0, 0)) :: R
/-- the same, but that what stood at one place is elsewhere -/
def LsH (n : Nat) (t : TypeId) (xs : List (List α)) (i : Int) (b : Nat) (v : Value) (H : Hp) : Prop :=
  xs.length = n ∧ 0 ≤ i ∧ i < (n : Int) ∧ ∃ pre post R, pre.length = i.toNat ∧ H = (b, Obj.cells (pre ++ v :: post).toArray t (0, 0)) :: R ∧
    ∀ ys a c Hy, SliceO k E ys a c Hy → ∃ R2, R2.Perm (R ++ Hy) ∧ Lsr k E (List.set xs i.toNat ys) (pre ++ .slice a ys.length c :: post) R2
variable {k E}
theorem lsr_take : ∀ (xs : List (List α)) (vs : List Value) (R : Hp) (i : Nat), Lsr k E xs vs R → i < xs.length →
    ∃ a c Hx pre post R', pre.length = i ∧ vs = pre ++ .slice a (List.length (rd xs (i : Int))) c :: post ∧ SliceO k E (rd xs (i : Int)) a c Hx ∧ R.Perm (R' ++ Hx) ∧
      ∀ ys a2 c2 Hy, SliceO k E ys a2 c2 Hy → ∃ R2, R2.Perm (R' ++ Hy) ∧ Lsr k E (List.set xs i ys) (pre ++ .slice a2 ys.length c2 :: post) R2
  | [], _, _, _, _, h => by simp at h
  | x :: xs, vs, R, 0, h, _ => by
    obtain ⟨a, c, Hx, vs', R', h1, rfl, rfl, h4⟩ := h
    refine ⟨a, c, Hx, [], vs', R', rfl, rfl, h1, List.perm_append_comm, fun ys a2 c2 Hy hy => ⟨Hy ++ R', List.perm_append_comm, ⟨a2, c2, Hy, vs', R', hy, rfl, rfl, h4⟩⟩⟩
  | x :: xs, vs, R, i + 1, h, hi => by
    obtain ⟨a, c, Hx, vs', R', h1, rfl, rfl, h4⟩ := h
    obtain ⟨a1, c1, H1, pre, post, R1, e1, rfl, e3, e4, e5⟩ := lsr_take xs vs' R' i h4 (by simpa using hi)
    have hr : rd (x :: xs) ((i + 1 : Nat) : Int) = rd xs (i : Int) := by
      unfold rd
      have h1 : ((i + 1 : Nat) : Int).toNat = i + 1 := by omega
      have h2 : ((i : Nat) : Int).toNat = i := by omega
      rw [h1, h2]; rfl
    refine ⟨a1, c1, H1, .slice a x.length c :: pre, post, Hx ++ R1, by simp [e1], ?_, by rw [hr]; exact e3, ?_, fun ys a2 c2 Hy hy => ?_⟩
    · rw [hr]; rfl
    · rw [List.append_assoc]; exact List.Perm.append_left Hx e4
    · obtain ⟨R2, p2, l2⟩ := e5 ys a2 c2 Hy hy
      exact ⟨Hx ++ R2, by rw [List.append_assoc]; exact List.Perm.append_left Hx p2, ⟨a, c, Hx, _, R2, h1, rfl, rfl, l2⟩⟩
theorem lsr_nil : ∀ n : Nat, Lsr k E (List.replicate n ([] : List α)) (List.replicate n (.slice none 0 0)) []
  | 0 => ⟨rfl, rfl⟩
  | n + 1 => ⟨none, 0, [], _, [], SliceO.nil, rfl, rfl, lsr_nil n⟩
theorem lsr_len : ∀ (xs : List (List α)) (vs : List Value) (R : Hp), Lsr k E xs vs R → vs.length = xs.length
  | [], _, _, h => by rw [h.1]; rfl
  | x :: xs, _, _, h => by
    obtain ⟨a, c, Hx, vs', R', _, rfl, _, h4⟩ := h
    simp [lsr_len xs vs' R' h4]

variable {n' : Nat} {F : Act → World → Prop} {env : Env} {HL : List Hp} {t : TypeId} {xs : List (List α)} {b m : Nat}
theorem at_lsnew {cs : List Value} {j : Nat} (k : Fl α) (E : TypeId) (m : Nat) (hj : idx j HL = some [(b, Obj.cells cs.toArray t (0, 0))]) (hc : cs = List.replicate m (.slice none 0 0))
    (h : ∀ H, LsO k E m t (List.replicate m ([] : List α)) b H → AtL W n' F env (HL.set j H)) : AtL W n' F env HL := by
  refine at_heap (fun w o => ?_) (h [(b, Obj.cells cs.toArray t (0, 0))] ⟨by simp, cs, [], by rw [hc]; exact lsr_nil m, rfl⟩)
  rw [idx_eq] at hj
  exact own_set hj (by simpa using own_get hj o)
/-- what stands at a place is taken out -/
theorem at_lsopen {H : Hp} {i : Int} {j : Nat} (hj : idx j HL = some H) (so : LsO k E m t xs b H) (hi : 0 ≤ i ∧ i < (m : Int))
    (h : ∀ a c Hx H', SliceO k E (rd xs i) a c Hx → LsH k E m t xs i b (.slice a (List.length (rd xs i)) c) H' → AtL W n' F env (HL.set j H' ++ [Hx])) : AtL W n' F env HL := by
  obtain ⟨hl, vs, R, hr, rfl⟩ := so
  obtain ⟨a, c, Hx, pre, post, R', e1, rfl, e3, e4, e5⟩ := lsr_take xs vs R i.toNat hr (by omega)
  have ei : ((i.toNat : Nat) : Int) = i := by omega
  rw [ei] at e3
  refine at_heap (fun w o => ?_) (h a c Hx ((b, Obj.cells (pre ++ .slice a (List.length (rd xs i)) c :: post).toArray t (0, 0)) :: R') e3 ⟨hl, hi.1, hi.2, pre, post, R', e1, rfl, e5⟩)
  rw [ei] at hj
  rw [idx_eq] at hj
  have h1 := own_get hj o
  rw [List.flatten_append]
  have h2 : Own W w (((b, Obj.cells (pre ++ .slice a (List.length (rd xs i)) c :: post).toArray t (0, 0)) :: R') ++ (HL.eraseIdx j).flatten ++ Hx) := by
    refine h1.perm ?_
    simp only [List.cons_append]
    refine List.Perm.cons _ ?_
    refine (List.Perm.append_right _ e4).trans ?_
    rw [List.append_assoc, List.append_assoc]
    exact List.Perm.append_left _ List.perm_append_comm
  refine h2.perm ?_
  simp only [List.flatten_cons, List.flatten_nil, List.append_nil]
  exact List.Perm.append_right _ (flatten_set HL j _ _ hj).symm
theorem in_ls {H : Hp} {i : Int} {j : Nat} {v : Value} (hj : idx j HL = some H) (so : LsH k E m t xs i b v H) : ∃ arr E fr, (b, Obj.cells arr E fr) ∈ HL.flatten ∧ arr[i.toNat]? = some v := by
  obtain ⟨_, _, _, pre, post, R, e1, rfl, _⟩ := so
  exact ⟨_, _, _, mem_group (by rw [← idx_eq]; exact hj) (List.mem_cons_self ..), by simp [← e1]⟩
end
section
variable {n : Nat} {env : Env} {H : Hp} {o : Oper}
/-- a place in an array behind a pointer -/
theorem g_arrat (T : Ty P) {m by' b : Nat} {t E : TypeId} {x ix : Operand} {kk : IntKind} {j : Int} {z : Value} (hop : o.op = .indexAddr t x ix)
    (hx : ev env x = some (.pointer (some ⟨b, 0, none⟩))) (hix : ev env ix = some (.int kk j)) (hu : T.und t = some (.array m E)) (hi : T.inf E = some (1, by', z))
    (hj : 0 ≤ j ∧ j < (m : Int)) : Gives W P n env H o (.pointer (some ⟨b, j.toNat, none⟩)) := by
  intro t' w s ow
  obtain ⟨h0, h1⟩ := hj
  unfold execOp
  simp only [hop, ev_eval s hx, ev_eval s hix, Instr.indexAt, Instr.sureAddr, asIntOf, Sem.run_bind, Sem.run_pure, Result.andThen_ok, run_und hu, Sem.run_ite, h0, h1, and_self, if_true, run_size hi]
  congr 3
  unfold Addr.add
  split
  · rename_i h
    have : j.toNat = 0 := by omega
    simp [this]
  · simp
end
section
variable {α : Type} [Inhabited α] {k : Fl α} {n : Nat} {Q : Exit → Act → World → Prop} {env : Env} {HL : List Hp} {ops : Array Oper} {i : Nat} {K : Act → World → Prop} {o : Oper}
/-- a slice of one's own is laid where one was taken out -/
theorem at_lsst (T : Ty P) {E t ty : TypeId} {x y : Operand} {xs : List (List α)} {ys : List α} {a : Option Addr} {b c m by' q : Nat} {v0 z : Value} {jx : Int} {H Hq : Hp} (j : Nat)
    (hs : slot0 ops env i = some o) (hop : o.op = .store ty x y) (hx : ev env x = some (.pointer (some ⟨b, jx.toNat, none⟩)))
    (hy : ev env y = some (.slice a ys.length c)) (hi : T.inf ty = some (1, by', z)) (hj : idx j HL = some H) (so : LsH k E m t xs jx b v0 H)
    (hne : j ≠ q) (hq : idx q HL = some Hq) (sq : SliceO k E ys a c Hq)
    (h : ∀ H', LsO k E m t (List.set xs jx.toNat ys) b H' → AtL W n K env ((HL.set j H').set q [])) : AtL W n (wpOp P ops Q i K) env HL := by
  obtain ⟨ho, hw, hd⟩ := slot0_spec hs
  obtain ⟨hl, j0, j1, pre, post, R, e1, rfl, e5⟩ := so
  obtain ⟨R2, p2, l2⟩ := e5 ys a c Hq sq
  rw [idx_eq] at hj hq
  have hlen : pre.length + 1 + post.length = m := by
    have := lsr_len _ _ _ l2
    simp at this; omega
  refine at_store T (cs := pre ++ .slice a ys.length c :: post) ho hw hd hop hx hy hi hj rfl (fun c hc => ?_) (by simp; omega) ?_ ?_
  · simp [cellsL] at hc; subst hc; rfl
  · unfold splice
    simp only [cellsL]
    rw [← e1, List.take_left', List.append_cancel_left_eq]
    · simp
    · rfl
  · refine at_heap (fun w o => ?_) (h ((b, Obj.cells (pre ++ .slice a ys.length c :: post).toArray t (0, 0)) :: R2) ⟨by simp [hl], _, R2, l2, rfl⟩)
    have hjl := (List.getElem?_eq_some_iff.1 hj).1
    have h1 := own_get (HL := HL.set j ((b, Obj.cells (pre ++ .slice a ys.length c :: post).toArray t (0, 0)) :: R)) (List.getElem?_set_self hjl) o
    · have hq2 : (HL.set j ((b, Obj.cells (pre ++ .slice a ys.length c :: post).toArray t (0, 0)) :: R))[q]? = some Hq := by
        rw [List.getElem?_set_ne hne]; exact hq
      have hq3 : (HL.set j ((b, Obj.cells (pre ++ .slice a ys.length c :: post).toArray t (0, 0)) :: R2))[q]? = some Hq := by
        rw [List.getElem?_set_ne hne]; exact hq
      refine own_set hq3 ?_
      have h2 := own_get hq2 o
      -- the two heaps
      have hp1 := flatten_erase (HL.set j ((b, Obj.cells (pre ++ .slice a ys.length c :: post).toArray t (0, 0)) :: R)) q Hq hq2
      have hp2 := flatten_set (HL.set j ((b, Obj.cells (pre ++ .slice a ys.length c :: post).toArray t (0, 0)) :: R2)) q Hq [] hq3
      refine o.perm ?_
      -- R ++ Hq as R2
      have ha : (HL.set j ((b, Obj.cells (pre ++ .slice a ys.length c :: post).toArray t (0, 0)) :: R)).flatten.Perm (((b, Obj.cells (pre ++ .slice a ys.length c :: post).toArray t (0, 0)) :: R) ++ (HL.eraseIdx j).flatten) := flatten_set HL j _ _ hj
      have hb : ((HL.set j ((b, Obj.cells (pre ++ .slice a ys.length c :: post).toArray t (0, 0)) :: R2))).flatten.Perm (((b, Obj.cells (pre ++ .slice a ys.length c :: post).toArray t (0, 0)) :: R2) ++ (HL.eraseIdx j).flatten) := flatten_set HL j _ _ hj
      have hc := flatten_erase (HL.set j ((b, Obj.cells (pre ++ .slice a ys.length c :: post).toArray t (0, 0)) :: R2)) q Hq hq3
      -- (b :: R) ++ rest ~ target, where Hq ++ target ~ (b :: R2) ++ rest, R2 ~ R ++ Hq
      have key : (Hq ++ (HL.set j ((b, Obj.cells (pre ++ .slice a ys.length c :: post).toArray t (0, 0)) :: R)).flatten).Perm (Hq ++ ([] ++ ((HL.set j ((b, Obj.cells (pre ++ .slice a ys.length c :: post).toArray t (0, 0)) :: R2)).eraseIdx q).flatten)) := by
        rw [List.nil_append]
        refine List.Perm.trans ?_ hc
        refine List.Perm.trans ?_ hb.symm
        refine (List.Perm.append_left Hq ha).trans ?_
        rw [← List.append_assoc]
        refine List.Perm.append_right _ ?_
        refine List.perm_append_comm.trans ?_
        simp only [List.cons_append]
        exact List.Perm.cons _ p2.symm
      exact (List.perm_append_left_iff Hq).1 key
end
section
variable {n : Nat} {Q : Exit → Act → World → Prop} {env : Env} {H : Hp}
/-- ways that meet where a round ends -/
theorem at_any_mid {x : Code} {σ : Type} (I : σ → Prop) (E : σ → Env) (G : σ → List Hp) (h1 : At W n (x.wp P (Exit.then (Mid W n I E G) Q)) env H)
    (h2 : ∀ s, I s → AtL W n (Q .normal) (E s) (G s)) : At W n (x.wp P Q) env H := by
  refine h1.mono fun a w h => wp_mono h fun e a w h => ?_
  cases e with
  | normal =>
    obtain ⟨s, hi, t, rfl, sl, o⟩ := h
    exact h2 s hi t w sl o
  | _ => exact h
end
theorem sub_cap {α : Type} {xs : List α} {lo hi : Int} {cap : Nat} (h : 0 ≤ lo ∧ lo ≤ hi ∧ hi ≤ (xs.length : Int)) (hc : xs.length ≤ cap) : (sub' xs lo hi).length ≤ cap - lo.toNat := by
  have := sub_length h; omega
end

section
variable {W : World}
variable {P : Program}

/-! ### maps whose values are slices, each of them owned -/
/-- what a slice is told by -/
abbrev Hd := Option Addr × Nat × Nat
def hdv (h : Hd) : Value := .slice h.1 h.2.1 h.2.2
section
variable {κ α : Type} [DecidableEq κ] {t : TypeId}
def Lmr (k : Fl α) (E : TypeId) : List (κ × List α) → List (κ × Hd) → Hp → Prop
  | [], hs, R => hs = [] ∧ R = []
  | e :: r, hs, R => ∃ a c Hx hs' R', SliceO k E e.2 a c Hx ∧ hs = (e.1, (a, e.2.length, c)) :: hs' ∧ R = Hx ++ R' ∧ Lmr k E r hs' R'
variable {k : Fl α} {E : TypeId}
theorem lmr_take : ∀ (xs : List (κ × List α)) (hs : List (κ × Hd)) (R : Hp) (x : κ), Lmr k E xs hs R →
    ∃ a c Hx R', SliceO k E (mval xs x) a c Hx ∧ mval hs x = (a, (mval xs x).length, c) ∧ R.Perm (R' ++ Hx) ∧
      ∀ ys a2 c2 Hy, SliceO k E ys a2 c2 Hy → ∃ R2, R2.Perm (R' ++ Hy) ∧ Lmr k E (mset xs x ys) (mset hs x (a2, ys.length, c2)) R2
  | [], _, _, x, h => by
    obtain ⟨rfl, rfl⟩ := h
    exact ⟨none, 0, [], [], SliceO.nil, rfl, by simp, fun ys a2 c2 Hy hy => ⟨Hy, by simp, a2, c2, Hy, [], [], hy, rfl, by simp, rfl, rfl⟩⟩
  | e :: r, hs, R, x, h => by
    obtain ⟨a, c, Hx, hs', R', h1, rfl, rfl, h4⟩ := h
    by_cases hk : e.1 = x
    · have e1 : mval (e :: r) x = e.2 := by simp [mval, mget, hk]
      have e2 : mval ((e.1, (a, e.2.length, c)) :: hs') x = (a, e.2.length, c) := by simp [mval, mget, hk]
      refine ⟨a, c, Hx, R', by rw [e1]; exact h1, by rw [e1, e2], List.perm_append_comm, fun ys a2 c2 Hy hy => ⟨Hy ++ R', List.perm_append_comm, ?_⟩⟩
      simp only [mset, hk, if_true]
      exact ⟨a2, c2, Hy, hs', R', hy, rfl, rfl, h4⟩
    · obtain ⟨a1, c1, H1, R1, q1, q2, q3, q4⟩ := lmr_take r hs' R' x h4
      have e1 : mval (e :: r) x = mval r x := by simp [mval, mget, hk]
      have e2 : mval ((e.1, (a, e.2.length, c)) :: hs') x = mval hs' x := by simp [mval, mget, hk]
      refine ⟨a1, c1, H1, Hx ++ R1, by rw [e1]; exact q1, by rw [e1, e2]; exact q2, by rw [List.append_assoc]; exact List.Perm.append_left Hx q3, fun ys a2 c2 Hy hy => ?_⟩
      obtain ⟨R2, p2, l2⟩ := q4 ys a2 c2 Hy hy
      refine ⟨Hx ++ R2, by rw [List.append_assoc]; exact List.Perm.append_left Hx p2, ?_⟩
      simp only [mset, hk, if_false]
      exact ⟨a, c, Hx, _, R2, h1, rfl, rfl, l2⟩
theorem lmr_len : ∀ (xs : List (κ × List α)) (hs : List (κ × Hd)) (R : Hp), Lmr k E xs hs R → hs.length = xs.length
  | [], _, _, h => by rw [h.1]; rfl
  | e :: r, _, _, h => by
    obtain ⟨a, c, Hx, hs', R', _, rfl, _, h4⟩ := h
    simp [lmr_len r hs' R' h4]
/-- what stands at a place -/
theorem lmr_at : ∀ (xs : List (κ × List α)) (hs : List (κ × Hd)) (R : Hp) (i : Nat) (h : κ × Hd), Lmr k E xs hs R → hs[i]? = some h →
    ∃ l c, xs[i]? = some (h.1, l) ∧ h.2 = (h.2.1, l.length, c) ∧ SliceR k l h.2.1 R ∧ l.length ≤ c
  | [], _, _, _, _, h, hi => by rw [h.1] at hi; simp at hi
  | e :: r, _, _, 0, g, h, hi => by
    obtain ⟨a, c, Hx, hs', R', h1, rfl, rfl, h4⟩ := h
    simp at hi; subst hi
    exact ⟨e.2, c, rfl, rfl, h1.r.mono (fun x hx => List.mem_append_left _ hx), h1.cap_le⟩
  | e :: r, _, _, i + 1, g, h, hi => by
    obtain ⟨a, c, Hx, hs', R', h1, rfl, rfl, h4⟩ := h
    obtain ⟨l, c2, q1, q2, q3, q4⟩ := lmr_at r hs' R' i g h4 (by simpa using hi)
    exact ⟨l, c2, by simpa using q1, q2, q3.mono (fun x hx => List.mem_append_right _ hx), q4⟩

variable (KK : Ky P t κ) (k E)
def MsO (xs : List (κ × List α)) (r : Nat) (H : Hp) : Prop :=
  ∃ hs H0 R, MapO KK hdv hs r H0 ∧ Lmr k E xs hs R ∧ H = H0 ++ R
/-- the same, but that what stood at one key is elsewhere -/
def MsH (xs : List (κ × List α)) (x : κ) (r : Nat) (v : Hd) (H : Hp) : Prop :=
  ∃ hs H0 R, MapO KK hdv hs r H0 ∧ mval hs x = v ∧ H = H0 ++ R ∧
    ∀ ys a2 c2 Hy, SliceO k E ys a2 c2 Hy → ∃ R2, R2.Perm (R ++ Hy) ∧ Lmr k E (mset xs x ys) (mset hs x (a2, ys.length, c2)) R2
variable {KK k E}
variable {n' : Nat} {F : Act → World → Prop} {env : Env} {HL : List Hp} {xs : List (κ × List α)} {r : Nat}
theorem mso_nil {H : Hp} (h : MapO KK hdv ([] : List (κ × Hd)) r H) : MsO k E KK ([] : List (κ × List α)) r H := ⟨[], H, [], h, ⟨rfl, rfl⟩, by simp⟩
/-- what stands at a key is taken out -/
theorem at_msopen {H : Hp} {j : Nat} (x : κ) (hj : idx j HL = some H) (so : MsO k E KK xs r H)
    (h : ∀ a c Hx H', SliceO k E (mval xs x) a c Hx → MsH k E KK xs x r (a, (mval xs x).length, c) H' → AtL W n' F env (HL.set j H' ++ [Hx])) : AtL W n' F env HL := by
  obtain ⟨hs, H0, R, h0, hl, rfl⟩ := so
  obtain ⟨a, c, Hx, R', q1, q2, q3, q4⟩ := lmr_take xs hs R x hl
  refine at_heap (fun w o => ?_) (h a c Hx (H0 ++ R') q1 ⟨hs, H0, R', h0, q2, rfl, q4⟩)
  rw [idx_eq] at hj
  have h1 := own_get hj o
  rw [List.flatten_append]
  have h2 : Own W w ((H0 ++ R') ++ (HL.eraseIdx j).flatten ++ Hx) := by
    refine h1.perm ?_
    rw [List.append_assoc, List.append_assoc, List.append_assoc]
    refine List.Perm.append_left _ ?_
    refine (List.Perm.append_right _ q3).trans ?_
    rw [List.append_assoc]
    exact List.Perm.append_left _ List.perm_append_comm
  refine h2.perm ?_
  simp only [List.flatten_cons, List.flatten_nil, List.append_nil]
  exact List.Perm.append_right _ (flatten_set HL j _ _ hj).symm
theorem in_msh {H : Hp} {j : Nat} {x : κ} {v : Hd} (hj : idx j HL = some H) (so : MsH k E KK xs x r v H) : ∃ hs, MapR KK hdv hs r HL.flatten ∧ mval hs x = v := by
  obtain ⟨hs, H0, R, h0, h1, rfl, _⟩ := so
  exact ⟨hs, h0.r.mono (fun y hy => mem_group (by rw [← idx_eq]; exact hj) (List.mem_append_left _ hy)), h1⟩
end
section rules
variable {κ α : Type} [DecidableEq κ] {t : TypeId} {k : Fl α} {E : TypeId}
variable {T : Ty P} {n : Nat} {Q : Exit → Act → World → Prop} {env : Env} {H : Hp} {HL : List Hp} {ops : Array Oper} {i : Nat} {K : Act → World → Prop} {o : Oper}
/-- a lookup of what was taken out -/
theorem g_lookms (T : Ty P) {mt et : TypeId} (KK : Ky P t κ) {x ix : Operand} {r : Nat} {kx : κ} {v : Hd} {sz by' : Nat}
    (hop : o.op = .lookup mt x ix false) (hx : ev env x = some (.map (some r))) (hk : ev env ix = some (KK.enc kx)) (hu : T.und mt = some (.map t et))
    (hi : T.inf et = some (sz, by', .slice none 0 0)) (hm : ∃ hs, MapR KK hdv hs r H ∧ mval hs kx = v) :
    Gives W P n env H o (.slice v.1 v.2.1 v.2.2) := by
  obtain ⟨hs, h1, h2⟩ := hm
  have := g_look (W := W) (n := n) (o := o) T KK hdv (k := kx) (b := false) (sz := sz) (by' := by') hop hx hk hu hi h1
  rw [h2] at this
  exact this
/-- a slice of one's own is laid at a key where one was taken out -/
theorem at_msput (T : Ty P) {mt et : TypeId} (KK : Ky P t κ) {x ix y : Operand} {xs : List (κ × List α)} {r q : Nat} {kx : κ} {v : Hd} {ys : List α} {a : Option Addr} {c : Nat} {Hj Hq : Hp} (j : Nat)
    (hs : slot0 ops env i = some o) (hop : o.op = .mapUpdate mt x ix y) (hx : ev env x = some (.map (some r))) (hk : ev env ix = some (KK.enc kx)) (hy : ev env y = some (.slice a ys.length c))
    (hu : T.und mt = some (.map t et)) (hj : idx j HL = some Hj) (so : MsH k E KK xs kx r v Hj) (hne : j ≠ q) (hq : idx q HL = some Hq) (sq : SliceO k E ys a c Hq)
    (h : ∀ H', MsO k E KK (mset xs kx ys) r H' → AtL W n K env ((HL.set j H').set q [])) : AtL W n (wpOp P ops Q i K) env HL := by
  obtain ⟨hs', H0, R, h0, _, rfl, h4⟩ := so
  obtain ⟨R2, p2, l2⟩ := h4 ys a c Hq sq
  have hj' := hj
  rw [idx_eq] at hj hq
  -- the map's own block stands apart
  have hsplit : ∀ w, Own W w HL.flatten → Own W w ((HL.set j R) ++ [H0]).flatten := fun w ow => by
    have h1 := own_get hj ow
    rw [List.flatten_append]
    have h2 : Own W w ((R ++ (HL.eraseIdx j).flatten) ++ H0) := h1.perm (by
      rw [List.append_assoc]; exact List.perm_append_comm)
    refine h2.perm ?_
    simp only [List.flatten_cons, List.flatten_nil, List.append_nil]
    exact List.Perm.append_right _ (flatten_set HL j _ _ hj).symm
  have hjl := (List.getElem?_eq_some_iff.1 hj).1
  refine at_heap hsplit ?_
  have hg : idx HL.length (HL.set j R ++ [H0]) = some H0 := by rw [idx_eq]; simp
  refine at_mu T KK hdv (v := ((a, ys.length, c) : Hd)) (k := kx) (g := HL.length) hs hop hx hk hy hu hg h0 (fun H' so' => ?_)
  refine at_heap (fun w o => ?_) (h (H' ++ R2) ⟨_, H', R2, so', l2, rfl⟩)
  have e1 : (HL.set j R ++ [H0]).set HL.length H' = HL.set j R ++ [H'] := by
    rw [List.set_append_right _ _ (by simp)]; simp
  rw [e1, List.flatten_append] at o
  have ha : (HL.set j R).flatten.Perm (R ++ (HL.eraseIdx j).flatten) := flatten_set HL j _ _ hj
  have hb : (HL.set j (H' ++ R2)).flatten.Perm ((H' ++ R2) ++ (HL.eraseIdx j).flatten) := flatten_set HL j _ _ hj
  have hq3 : (HL.set j (H' ++ R2))[q]? = some Hq := by rw [List.getElem?_set_ne hne]; exact hq
  have hc := flatten_erase (HL.set j (H' ++ R2)) q Hq hq3
  refine own_set hq3 ?_
  refine o.perm ?_
  simp only [List.flatten_cons, List.flatten_nil, List.append_nil]
  have key : (Hq ++ ((HL.set j R).flatten ++ H')).Perm (Hq ++ ([] ++ ((HL.set j (H' ++ R2)).eraseIdx q).flatten)) := by
    rw [List.nil_append]
    refine List.Perm.trans ?_ hc
    refine List.Perm.trans ?_ hb.symm
    refine (List.Perm.append_left Hq (List.Perm.append_right H' ha)).trans ?_
    -- Hq ++ ((R ++ rest) ++ H')  ~  (H' ++ R2) ++ rest
    have s1 : (Hq ++ ((R ++ (HL.eraseIdx j).flatten) ++ H')).Perm (H' ++ ((R ++ Hq) ++ (HL.eraseIdx j).flatten)) := by
      rw [← List.append_assoc Hq]
      refine List.perm_append_comm.trans ?_
      refine List.Perm.append_left H' ?_
      rw [← List.append_assoc]
      exact List.Perm.append_right _ List.perm_append_comm
    refine s1.trans ?_
    rw [List.append_assoc H']
    exact List.Perm.append_left H' (List.Perm.append_right _ p2.symm)
  exact (List.perm_append_left_iff Hq).1 key
end rules
end

section
variable {W : World}
variable {P : Program}
open Go.ChangeMaps (setBlock)

/-! ### range over such a map: whichever entry comes next -/
section
variable {ε : Type}
/-- one of the list, and what is left of it -/
def Pickd (l : List ε) (e : ε) (l' : List ε) : Prop := ∃ j : Nat, l[j]? = some e ∧ l' = l.eraseIdx j
/-- what comes of it whichever is picked: if it is one thing -/
noncomputable def allPick {ρ : Type} (l : List ε) (g : ε → List ε → Option ρ) : Option ρ :=
  open Classical in if h : ∃ r, ∀ e l', Pickd l e l' → g e l' = some r then some (Classical.choose h) else none
noncomputable def rangeP {ρ : Type} (l : List ε) (z : Option ρ) (g : ε → List ε → Option ρ) : Option ρ := if l.isEmpty = true then z else allPick l g
theorem allPick_h {ρ : Type} {l l' : List ε} {e : ε} {g : ε → List ε → Option ρ} {r : ρ} (h : Pickd l e l') (H : allPick l g = some r) : g e l' = some r := by
  unfold allPick at H
  by_cases hh : ∃ r, ∀ e l', Pickd l e l' → g e l' = some r
  · rw [dif_pos hh] at H
    have := Classical.choose_spec hh e l' h
    rw [this, Option.some.inj H]
  · rw [dif_neg hh] at H; cases H
theorem allPick_i {ρ : Type} {l l0 : List ε} {e0 : ε} {g : ε → List ε → Option ρ} {r : ρ} (h0 : Pickd l e0 l0) (h : ∀ e l', Pickd l e l' → g e l' = some r) : allPick l g = some r := by
  unfold allPick
  have hh : ∃ r, ∀ e l', Pickd l e l' → g e l' = some r := ⟨r, h⟩
  rw [dif_pos hh]
  have h1 := Classical.choose_spec hh e0 l0 h0
  rw [h e0 l0 h0] at h1; exact h1.symm
theorem rangeP_nil {ρ : Type} {l : List ε} {z : Option ρ} {g : ε → List ε → Option ρ} {r : ρ} (h : l = []) (H : rangeP l z g = some r) : z = some r := by
  subst h; exact H
theorem rangeP_pick {ρ : Type} {l l' : List ε} {e : ε} {z : Option ρ} {g : ε → List ε → Option ρ} {r : ρ} (h : Pickd l e l') (H : rangeP l z g = some r) : g e l' = some r := by
  cases l with
  | nil => obtain ⟨j, hj, _⟩ := h; simp at hj
  | cons a t => exact allPick_h h H
theorem rangeP_all {ρ : Type} {l : List ε} {z : Option ρ} {g : ε → List ε → Option ρ} {r : ρ} (h0 : l = [] → z = some r) (h : ∀ e l', Pickd l e l' → g e l' = some r) : rangeP l z g = some r := by
  cases l with
  | nil => exact h0 rfl
  | cons a t => exact allPick_i ⟨0, rfl, rfl⟩ h
theorem pick_filter (p : Nat → Bool) (b0 : Nat) : ∀ (l : List (ε × Nat)) (i : Nat) (e : ε), (l.map (·.2)).Nodup → l[i]? = some (e, b0) → p b0 = true →
    Pickd ((l.filter (fun x => p x.2)).map (·.1)) e ((l.filter (fun x => p x.2 && !(x.2 == b0))).map (·.1))
  | [], i, e, _, h, _ => by simp at h
  | x :: r, 0, e, hn, h, hp => by
    simp at h; subst h
    rw [List.map_cons, List.nodup_cons] at hn
    refine ⟨0, by simp [hp], ?_⟩
    have : r.filter (fun x => p x.2 && !(x.2 == b0)) = r.filter (fun x => p x.2) := by
      apply List.filter_congr
      intro y hy
      have : y.2 ≠ b0 := fun q => hn.1 (List.mem_map.2 ⟨y, hy, q⟩)
      simp [this]
    simp [hp, this]
  | x :: r, i + 1, e, hn, h, hp => by
    rw [List.map_cons, List.nodup_cons] at hn
    have hr : r[i]? = some (e, b0) := by simpa using h
    obtain ⟨j, h1, h2⟩ := pick_filter p b0 r i e hn.2 hr hp
    have hx : x.2 ≠ b0 := fun q => hn.1 (List.mem_map.2 ⟨(e, b0), List.mem_of_getElem? hr, q.symm⟩)
    by_cases hpx : p x.2 = true
    · refine ⟨j + 1, ?_, ?_⟩
      · simpa [hpx] using h1
      · simp only [List.filter_cons, hpx, Bool.true_and]
        have : (!(x.2 == b0)) = true := by simp [hx]
        rw [if_pos this, if_pos True.intro, List.map_cons, List.map_cons, List.eraseIdx_cons_succ, h2]
    · refine ⟨j, ?_, ?_⟩
      · simpa [hpx] using h1
      · simpa [hpx] using h2
end
section
variable {κ α : Type} [DecidableEq κ] {t : TypeId}
def leftL (xs : List (κ × List α)) (bs : List Nat) (seen : Array Nat) : List (κ × List α) := ((xs.zip bs).filter (fun p => !seen.contains p.2)).map (·.1)
variable (k : Fl α) (E : TypeId) (KK : Ky P t κ)
/-- a map that is gone through: who is left, who came last and where its slice is -/
def RgO (left : List (κ × List α)) (cur : Option ((κ × List α) × Option Addr × Nat)) (r b : Nat) (H : Hp) : Prop :=
  ∃ (xs : List (κ × List α)) (hs : List (κ × Hd)) (bs : List Nat) (c : Nat) (R : Hp) (since : Nat) (seen : Array Nat) (c0 : Nat),
    bs.length = hs.length ∧ bs.Nodup ∧ (∀ x ∈ bs, x < since) ∧ since ≤ c0 ∧ since ≤ c ∧ Lmr k E xs hs R ∧
    H = (r, Obj.map (ents KK hdv hs bs).toArray c) :: (b, Obj.mapIter (some r) since seen c0) :: R ∧ left = leftL xs bs seen ∧
    (∀ e a cc, cur = some (e, a, cc) → ∃ (i bi : Nat) (seen' : Array Nat), hs[i]? = some (e.1, (a, e.2.length, cc)) ∧ bs[i]? = some bi ∧ seen = seen'.push bi ∧ c0 = c)
variable {k E KK}
theorem ents_born (kv : Hd → Value) : ∀ (hs : List (κ × Hd)) (bs : List Nat), bs.length = hs.length → (ents KK kv hs bs).map (·.born) = bs
  | [], [], _ => rfl
  | [], _ :: _, h => by simp at h
  | _ :: _, [], h => by simp at h
  | e :: r, b :: bs, h => by simp [ents, ents_born kv r bs (by simpa using h)]
theorem zip_snd : ∀ (xs : List (κ × List α)) (bs : List Nat), bs.length = xs.length → (xs.zip bs).map (·.2) = bs
  | [], [], _ => rfl
  | [], _ :: _, h => by simp at h
  | _ :: _, [], h => by simp at h
  | e :: r, b :: bs, h => by simp [zip_snd r bs (by simpa using h)]
theorem leftL_all (xs : List (κ × List α)) (bs : List Nat) (h : bs.length = xs.length) : leftL xs bs #[] = xs := by
  unfold leftL
  have : (xs.zip bs).filter (fun p => !(#[] : Array Nat).contains p.2) = xs.zip bs := by
    apply List.filter_eq_self.2; intro p _; simp
  rw [this]
  clear this
  induction xs generalizing bs with
  | nil => rfl
  | cons a r ih =>
    cases bs with
    | nil => simp at h
    | cons b bs => simp [ih bs (by simpa using h)]
theorem left_len (hs : List (κ × Hd)) (xs : List (κ × List α)) (bs : List Nat) (seen : Array Nat) (h1 : bs.length = hs.length) (h2 : bs.length = xs.length) :
    (leftOf (ents KK hdv hs bs).toArray seen).size = (leftL xs bs seen).length := by
  have e1 : ((leftOf (ents KK hdv hs bs).toArray seen).toList.map (·.born)) = bs.filter (fun b => !seen.contains b) := by
    unfold leftOf
    have : ((ents KK hdv hs bs).toArray.filter fun e => !seen.contains e.born).toList = (ents KK hdv hs bs).filter (fun e => !seen.contains e.born) := by simp
    rw [this]
    conv => rhs; rw [← ents_born (KK := KK) hdv hs bs h1]
    rw [List.filter_map]; rfl
  have e2 : ((xs.zip bs).filter (fun p => !seen.contains p.2)).map (·.2) = bs.filter (fun b => !seen.contains b) := by
    conv => rhs; rw [← zip_snd xs bs h2]
    rw [List.filter_map]; rfl
  have l1 := congrArg List.length e1
  have l2 := congrArg List.length e2
  rw [List.length_map] at l1 l2
  unfold leftL
  rw [List.length_map, l2, ← l1]; simp
end
section rules
variable {κ α : Type} [DecidableEq κ] {t : TypeId} {k : Fl α} {E : TypeId}
variable {T : Ty P} {n : Nat} {Q : Exit → Act → World → Prop} {env : Env} {H : Hp} {HL : List Hp} {ops : Array Oper} {i : Nat} {K : Act → World → Prop} {o : Oper}
theorem at_range (T : Ty P) {d mt et : TypeId} (KK : Ky P t κ) {x : Operand} {xs : List (κ × List α)} {r : Nat} {Hj : Hp} (j : Nat)
    (hs : slot n ops env i = some (o, d)) (hop : o.op = .range mt x) (hx : ev env x = some (.map (some r))) (hu : T.und mt = some (.map t et))
    (hj : idx j HL = some Hj) (so : MsO k E KK xs r Hj)
    (h : ∀ b H', RgO k E KK xs none r b H' → AtL W n K ((d, .pointer (some ⟨b, 0, none⟩)) :: env) (HL.set j H')) : AtL W n (wpOp P ops Q i K) env HL := by
  obtain ⟨ho, hw, hd, hn⟩ := slot_spec hs
  obtain ⟨hs', H0, R, ⟨bs, c, hl, ⟨hnd, hc⟩, rfl⟩, hL, rfl⟩ := so
  rw [idx_eq] at hj
  have hlx := lmr_len _ _ _ hL
  refine at_val_w (β := { p : Nat × Hp // RgO k E KK xs none r p.1 p.2 }) (V := fun p => .pointer (some ⟨p.1.1, 0, none⟩)) (G := fun p => (HL.set j p.1.2).flatten) ho hw hd hn (fun tt w s ow => ?_) (fun p => h _ _ p.2)
  have hb := (own_get hj ow).lookup (b := r) (o := Obj.map (ents KK hdv hs' bs).toArray c) (by simp)
  refine ⟨⟨(w.heap.size, (r, Obj.map (ents KK hdv hs' bs).toArray c) :: (w.heap.size, Obj.mapIter (some r) c #[] c) :: R), ⟨xs, hs', bs, c, R, c, #[], c, hl, hnd, hc, Nat.le_refl _, Nat.le_refl _, hL, rfl, (leftL_all xs bs (by omega)).symm, fun _ _ _ q => by cases q⟩⟩, w.alloc (.mapIter (some r) c #[] c), ?_, ?_⟩
  · unfold execOp
    simp [hop, ev_eval s hx, Instr.range, run_und hu, MapKept.run_getObj_map hb]
  · have h1 := (own_get hj ow).alloc (.mapIter (some r) c #[] c)
    refine own_set hj (h1.perm ?_)
    simp only [List.singleton_append, List.cons_append]
    exact List.Perm.swap _ _ _
theorem at_next (T : Ty P) {d b r : Nat} (KK : Ky P t κ) {x : Operand} {left : List (κ × List α)} {cur : Option ((κ × List α) × Option Addr × Nat)} {Hj : Hp} (j : Nat)
    (hs : slot n ops env i = some (o, d)) (hop : o.op = .next x false) (hx : ev env x = some (.pointer (some ⟨b, 0, none⟩))) (hj : idx j HL = some Hj) (so : RgO k E KK left cur r b Hj)
    (h0 : left = [] → AtL W n K ((d, .tuple #[.bool false]) :: env) HL)
    (h1 : ∀ e left' a cc H', Pickd left e left' → SliceR k e.2 a H' → e.2.length ≤ cc → RgO k E KK left' (some (e, a, cc)) r b H' →
      AtL W n K ((d, .tuple #[.bool true, KK.enc e.1, .slice a e.2.length cc]) :: env) (HL.set j H')) : AtL W n (wpOp P ops Q i K) env HL := by
  obtain ⟨ho, hw, hd, hn⟩ := slot_spec hs
  obtain ⟨xs, hs', bs, c, R, since, seen, c0, hl, hnd, hsn, hs0, hsc, hL, rfl, hlf, _⟩ := so
  rw [idx_eq] at hj
  have hlx := lmr_len _ _ _ hL
  refine at_val_w (β := { p : Option ((κ × List α) × List (κ × List α) × Option Addr × Nat × Hp) // match p with | none => left = [] | some (e, left', a, cc, H') => Pickd left e left' ∧ SliceR k e.2 a H' ∧ e.2.length ≤ cc ∧ RgO k E KK left' (some (e, a, cc)) r b H' })
    (V := fun p => match p.1 with | none => .tuple #[.bool false] | some (e, _, a, cc, _) => .tuple #[.bool true, KK.enc e.1, .slice a e.2.length cc])
    (G := fun p => match p.1 with | none => HL.flatten | some (_, _, _, _, H') => (HL.set j H').flatten) ho hw hd hn (fun tt w s ow => ?_) (fun p => ?_)
  · have og := own_get hj ow
    have hb := og.lookup (b := r) (o := Obj.map (ents KK hdv hs' bs).toArray c) (by simp)
    have hr := og.lookup (b := b) (o := Obj.mapIter (some r) since seen c0) (by simp)
    have hborn := ents_born (KK := KK) hdv hs' bs hl
    have hold : ∀ y ∈ (ents KK hdv hs' bs).toArray.toList, y.born < since := fun y hy => hsn _ (by rw [← hborn]; exact List.mem_map.2 ⟨y, by simpa using hy, rfl⟩)
    have hexec : ∀ (v : Value) (w' : World), (Instr.next (.pointer (some ⟨b, 0, none⟩)) false o.type).run P w = .ok v w' → (execOp (Act.eval ⟨tt, []⟩) o).run P w = .ok (.value v) w' := fun v w' q => by
      unfold execOp
      simp [hop, ev_eval s hx, q]
    rcases run_next_at (P := P) w o.type b r since c0 seen _ c hr hb hold hs0 with ⟨hz, hrun⟩ | ⟨e, he, w1, hal, hrun⟩
    · refine ⟨⟨none, ?_⟩, w, hexec _ _ hrun, ow⟩
      have := left_len (KK := KK) hs' xs bs seen hl (by omega)
      rw [hz] at this
      simp only
      rw [hlf]; exact List.length_eq_zero_iff.1 this.symm
    · obtain ⟨hem, hes⟩ := mem_left he
      obtain ⟨q, hq⟩ := List.getElem?_of_mem (by simpa using hem : e ∈ ents KK hdv hs' bs)
      have hql : q < hs'.length := by
        have := (List.getElem?_eq_some_iff.1 hq).1
        rw [ents_length KK hdv hs' bs hl] at this; exact this
      obtain ⟨b0, g1, g2⟩ := ents_get KK hdv hs' bs q hs'[q] hl (List.getElem?_eq_getElem hql)
      rw [hq] at g1
      have ee := Option.some.inj g1
      obtain ⟨l, cc, a1, a2, a3, a4⟩ := lmr_at xs hs' R q hs'[q] hL (List.getElem?_eq_getElem hql)
      have hz : (xs.zip bs)[q]? = some ((hs'[q].1, l), b0) := by
        rw [List.getElem?_zip_eq_some]; exact ⟨a1, g2⟩
      have eb : e.born = b0 := by rw [ee]
      have hpk := pick_filter (fun y => !seen.contains y) b0 (xs.zip bs) q (hs'[q].1, l) (by rw [zip_snd xs bs (by omega)]; exact hnd) hz (by rw [← eb, hes]; rfl)
      have hleft' : leftL xs bs (seen.push b0) = ((xs.zip bs).filter (fun x => !seen.contains x.2 && !(x.2 == b0))).map (·.1) := by
        unfold leftL
        congr 1
        apply List.filter_congr
        intro y _
        rw [contains_push, Bool.not_or]
      have hnew : RgO k E KK (leftL xs bs (seen.push b0)) (some ((hs'[q].1, l), hs'[q].2.1, cc)) r b ((r, Obj.map (ents KK hdv hs' bs).toArray c) :: (b, Obj.mapIter (some r) since (seen.push b0) c) :: R) :=
        ⟨xs, hs', bs, c, R, since, seen.push b0, c, hl, hnd, hsn, hsc, hsc, hL, rfl, rfl, fun e' a' cc' q' => by
          obtain ⟨rfl, rfl, rfl⟩ : (hs'[q].1, l) = e' ∧ hs'[q].2.1 = a' ∧ cc = cc' := by
            have := Option.some.inj q'
            exact ⟨congrArg (·.1) this, congrArg (·.2.1) this, congrArg (·.2.2) this⟩
          exact ⟨q, b0, seen, by rw [List.getElem?_eq_getElem hql]; congr 1; exact Prod.ext rfl a2, g2, rfl, rfl⟩⟩
      refine ⟨⟨some ((hs'[q].1, l), leftL xs bs (seen.push b0), hs'[q].2.1, cc, (r, Obj.map (ents KK hdv hs' bs).toArray c) :: (b, Obj.mapIter (some r) since (seen.push b0) c) :: R), ?_⟩, setBlock w1 b (.mapIter (some r) since (seen.push e.born) c), hexec _ _ ?_, ?_⟩
      · refine ⟨?_, a3.mono (fun y hy => List.mem_cons_of_mem _ (List.mem_cons_of_mem _ hy)), a4, hnew⟩
        rw [hlf, hleft']; exact hpk
      · rw [hrun, ee]
        simp only [hdv]
        rw [a2]
      · have og1 : Own W w1 (((r, Obj.map (ents KK hdv hs' bs).toArray c) :: (b, Obj.mapIter (some r) since seen c0) :: R) ++ (HL.eraseIdx j).flatten) := by
          rcases hal with rfl | rfl
          · exact og
          · exact og.drew
        refine own_set hj ?_
        have og2 := og1.perm (List.Perm.swap _ _ _)
        have := og2.turn (o' := .mapIter (some r) since (seen.push b0) c) (w' := setBlock w1 b (.mapIter (some r) since (seen.push e.born) c)) (by rw [eb]; rfl) rfl rfl rfl
        exact this.perm (List.Perm.swap _ _ _)
  · obtain ⟨p, hp⟩ := p
    cases p with
    | none => exact h0 hp
    | some q =>
      obtain ⟨e, left', a, cc, H'⟩ := q
      obtain ⟨q1, q2, q3, q4⟩ := hp
      exact h1 e left' a cc H' q1 q2 q3 q4
/-- the entry that came -/
theorem g_entry (T : Ty P) {b r j : Nat} (KK : Ky P t κ) {x : Operand} {left : List (κ × List α)} {e : κ × List α} {a : Option Addr} {cc : Nat} {Hj : Hp}
    (hop : o.op = .entry x) (hx : ev env x = some (.pointer (some ⟨b, 0, none⟩))) (hj : idx j HL = some Hj) (so : RgO k E KK left (some (e, a, cc)) r b Hj) :
    Gives W P n env HL.flatten o (.tuple #[KK.enc e.1, .slice a e.2.length cc]) := by
  intro t' w s ow
  obtain ⟨xs, hs', bs, c, R, since, seen, c0, hl, hnd, hsn, hs0, hsc, hL, rfl, hlf, hcur⟩ := so
  obtain ⟨q, bi, seen', q1, q2, rfl, rfl⟩ := hcur e a cc rfl
  rw [idx_eq] at hj
  have og := own_get hj ow
  have hb := og.lookup (b := r) (o := Obj.map (ents KK hdv hs' bs).toArray c0) (by simp)
  have hr := og.lookup (b := b) (o := Obj.mapIter (some r) since (seen'.push bi) c0) (by simp)
  obtain ⟨b0, g1, g2⟩ := ents_get KK hdv hs' bs q _ hl q1
  rw [q2] at g2
  obtain rfl := Option.some.inj g2
  have hborn := ents_born (KK := KK) hdv hs' bs hl
  have := run_entry_at (P := P) w b r since seen' (ents KK hdv hs' bs).toArray c0 ⟨KK.enc e.1, hdv (a, e.2.length, cc), bi⟩ hr hb (by simpa using List.mem_of_getElem? g1) (by simpa [hborn] using hnd)
  unfold execOp
  simp [hop, ev_eval s hx, this, hdv]
end rules
end

section
variable {W : World}
variable {P : Program}

/-! ### slices whose elements own a slice each: told by their headers -/
/-- a kind of elements: what is flat of them, and the slice within -/
structure Nk (α β γ : Type) where
  kin : Fl γ
  ein : TypeId
  kh : Fl β
  get : α → List γ
  set : α → List γ → α
  hd : α → Option Addr → Nat → β
  getset : ∀ x l, get (set x l) = l
section
variable {α β γ : Type} [Inhabited α] [Inhabited β] (N : Nk α β γ)
def Lnr : List α → List β → Hp → Prop
  | [], hs, R => hs = [] ∧ R = []
  | x :: r, hs, R => ∃ a c Hx hs' R', SliceO N.kin N.ein (N.get x) a c Hx ∧ hs = N.hd x a c :: hs' ∧ R = Hx ++ R' ∧ Lnr r hs' R'
def NsO (E : TypeId) (xs : List α) (a : Option Addr) (cap : Nat) (H : Hp) : Prop :=
  ∃ hs H0 R, SliceO N.kh E hs a cap H0 ∧ Lnr N xs hs R ∧ H = H0 ++ R
variable {N}
theorem lnr_len : ∀ (xs : List α) (hs : List β) (R : Hp), Lnr N xs hs R → hs.length = xs.length
  | [], _, _, h => by rw [h.1]; rfl
  | x :: r, _, _, h => by
    obtain ⟨a, c, Hx, hs', R', _, rfl, _, h4⟩ := h
    simp [lnr_len r hs' R' h4]
theorem lnr_append : ∀ (xs : List α) (hs : List β) (R : Hp) (ys : List α) (gs : List β) (S : Hp), Lnr N xs hs R → Lnr N ys gs S → Lnr N (xs ++ ys) (hs ++ gs) (R ++ S)
  | [], _, _, ys, gs, S, h, h2 => by obtain ⟨rfl, rfl⟩ := h; exact h2
  | x :: r, _, _, ys, gs, S, h, h2 => by
    obtain ⟨a, c, Hx, hs', R', h1, rfl, rfl, h4⟩ := h
    exact ⟨a, c, Hx, hs' ++ gs, R' ++ S, h1, rfl, by rw [List.append_assoc], lnr_append r hs' R' ys gs S h4 h2⟩
theorem lnr_one {x : α} (hx : N.get x = []) : Lnr N [x] [N.hd x none 0] [] :=
  ⟨none, 0, [], [], [], by rw [hx]; exact SliceO.nil, rfl, rfl, rfl, rfl⟩
theorem lnr_push {xs : List α} {hs : List β} {R : Hp} {x : α} (h : Lnr N xs hs R) (hx : N.get x = []) : Lnr N (xs ++ [x]) (hs ++ [N.hd x none 0]) R := by
  have := lnr_append xs hs R _ _ _ h (lnr_one hx)
  simpa using this
theorem lnr_take : ∀ (xs : List α) (hs : List β) (R : Hp) (i : Nat), Lnr N xs hs R → i < xs.length →
    ∃ a c Hx R', SliceO N.kin N.ein (N.get (rd xs (i : Int))) a c Hx ∧ rd hs (i : Int) = N.hd (rd xs (i : Int)) a c ∧ R.Perm (R' ++ Hx) ∧
      ∀ l a2 c2 Hy, SliceO N.kin N.ein l a2 c2 Hy → ∃ R2, R2.Perm (R' ++ Hy) ∧ Lnr N (List.set xs i (N.set (rd xs (i : Int)) l)) (List.set hs i (N.hd (N.set (rd xs (i : Int)) l) a2 c2)) R2
  | [], _, _, _, _, h => by simp at h
  | x :: r, hs, R, 0, h, _ => by
    obtain ⟨a, c, Hx, hs', R', h1, rfl, rfl, h4⟩ := h
    refine ⟨a, c, Hx, R', h1, rfl, List.perm_append_comm, fun l a2 c2 Hy hy => ⟨Hy ++ R', List.perm_append_comm, ⟨a2, c2, Hy, hs', R', ?_, rfl, rfl, h4⟩⟩⟩
    show SliceO N.kin N.ein (N.get (N.set x l)) a2 c2 Hy
    rw [N.getset]; exact hy
  | x :: r, hs, R, i + 1, h, hi => by
    obtain ⟨a, c, Hx, hs', R', h1, rfl, rfl, h4⟩ := h
    obtain ⟨a1, c1, H1, R1, e1, e2, e4, e5⟩ := lnr_take r hs' R' i h4 (by simpa using hi)
    have hr : ∀ {δ : Type} [Inhabited δ] (y : δ) (l : List δ), rd (y :: l) ((i + 1 : Nat) : Int) = rd l (i : Int) := by
      intro δ _ y l
      unfold rd
      have h1 : ((i + 1 : Nat) : Int).toNat = i + 1 := by omega
      have h2 : ((i : Nat) : Int).toNat = i := by omega
      rw [h1, h2]; rfl
    refine ⟨a1, c1, H1, Hx ++ R1, by rw [hr]; exact e1, by rw [hr, hr]; exact e2, by rw [List.append_assoc]; exact List.Perm.append_left Hx e4, fun l a2 c2 Hy hy => ?_⟩
    obtain ⟨R2, p2, l2⟩ := e5 l a2 c2 Hy hy
    refine ⟨Hx ++ R2, by rw [List.append_assoc]; exact List.Perm.append_left Hx p2, ?_⟩
    rw [hr]
    exact ⟨a, c, Hx, _, R2, h1, rfl, rfl, l2⟩
theorem nso_nil {E : TypeId} : NsO N E ([] : List α) none 0 [] := ⟨[], [], [], SliceO.nil, ⟨rfl, rfl⟩, rfl⟩
end
section
variable {α β γ : Type} [Inhabited α] [Inhabited β] {N : Nk α β γ} {n' : Nat} {F : Act → World → Prop} {env : Env} {HL : List Hp} {E : TypeId} {xs : List α} {a : Option Addr} {cap : Nat}
/-- the headers' slice, and what the elements own, apart -/
theorem at_nssplit {H : Hp} {j : Nat} (hj : idx j HL = some H) (so : NsO N E xs a cap H)
    (h : ∀ hs H0 R, SliceO N.kh E hs a cap H0 → Lnr N xs hs R → hs.length = xs.length → AtL W n' F env (HL.set j H0 ++ [R])) : AtL W n' F env HL := by
  obtain ⟨hs, H0, R, h0, hl, rfl⟩ := so
  refine at_heap (fun w o => ?_) (h hs H0 R h0 hl (lnr_len _ _ _ hl))
  rw [idx_eq] at hj
  have h1 := own_get hj o
  rw [List.flatten_append]
  have h2 : Own W w (H0 ++ (HL.eraseIdx j).flatten ++ R) := h1.perm (by
    rw [List.append_assoc, List.append_assoc]
    exact List.Perm.append_left _ List.perm_append_comm)
  refine h2.perm ?_
  simp only [List.flatten_cons, List.flatten_nil, List.append_nil]
  exact List.Perm.append_right _ (flatten_set HL j _ _ hj).symm
/-- and as one -/
theorem at_nsjoin {H0 R : Hp} {hs : List β} {j q : Nat} (hj : idx j HL = some H0) (hq : idx q HL = some R) (hne : j ≠ q) (s0 : SliceO N.kh E hs a cap H0) (sl : Lnr N xs hs R)
    (h : ∀ H, NsO N E xs a cap H → AtL W n' F env ((HL.set j H).set q [])) : AtL W n' F env HL := by
  refine at_heap (fun w o => ?_) (h (H0 ++ R) ⟨hs, H0, R, s0, sl, rfl⟩)
  rw [idx_eq] at hj hq
  have hq3 : (HL.set j (H0 ++ R))[q]? = some R := by rw [List.getElem?_set_ne hne]; exact hq
  refine own_set hq3 ?_
  have ha := flatten_erase HL j H0 hj
  have hb : (HL.set j (H0 ++ R)).flatten.Perm ((H0 ++ R) ++ (HL.eraseIdx j).flatten) := flatten_set HL j _ _ hj
  have hc := flatten_erase (HL.set j (H0 ++ R)) q R hq3
  refine o.perm ?_
  have key : (R ++ HL.flatten).Perm (R ++ ([] ++ ((HL.set j (H0 ++ R)).eraseIdx q).flatten)) := by
    rw [List.nil_append]
    refine List.Perm.trans ?_ hc
    refine List.Perm.trans ?_ hb.symm
    refine (List.Perm.append_left R ha).trans ?_
    rw [← List.append_assoc]
    exact List.Perm.append_right _ List.perm_append_comm
  exact (List.perm_append_left_iff R).1 key
/-- a place's slice is taken out of what the elements own -/
theorem at_nstake {R : Hp} {hs : List β} {q : Nat} {i : Int} (hq : idx q HL = some R) (sl : Lnr N xs hs R) (hi : 0 ≤ i ∧ i < (xs.length : Int))
    (h : ∀ b c Hx R', SliceO N.kin N.ein (N.get (rd xs i)) b c Hx → rd hs i = N.hd (rd xs i) b c →
      (∀ l a2 c2 Hy, SliceO N.kin N.ein l a2 c2 Hy → ∃ R2, R2.Perm (R' ++ Hy) ∧ Lnr N (List.set xs i.toNat (N.set (rd xs i) l)) (List.set hs i.toNat (N.hd (N.set (rd xs i) l) a2 c2)) R2) →
      AtL W n' F env (HL.set q R' ++ [Hx])) : AtL W n' F env HL := by
  obtain ⟨b, c, Hx, R', e1, e2, e3, e4⟩ := lnr_take xs hs R i.toNat sl (by omega)
  rw [show ((i.toNat : Nat) : Int) = i by omega] at e1 e2 e4
  refine at_heap (fun w o => ?_) (h b c Hx R' e1 e2 e4)
  rw [idx_eq] at hq
  have h1 := own_get hq o
  rw [List.flatten_append]
  have h2 : Own W w (R' ++ (HL.eraseIdx q).flatten ++ Hx) := h1.perm (by
    refine (List.Perm.append_right _ e3).trans ?_
    rw [List.append_assoc, List.append_assoc]
    exact List.Perm.append_left _ List.perm_append_comm)
  refine h2.perm ?_
  simp only [List.flatten_cons, List.flatten_nil, List.append_nil]
  exact List.Perm.append_right _ (flatten_set HL q _ _ hq).symm
end
end

section
variable {P : Program}

/-! ### keys of two whole numbers -/
def pairV (q : IntKind) (x : Int × Int) : Value := .agg #[.int q x.1, .int q x.2]
theorem run_part_int (T : Ty P) {et : TypeId} {q : IntKind} {cs : Array Value} {i : Nat} {v : Value} (hu : T.und et = some (.int q)) (hv : cs[i]? = some v) (w : World) : (part et cs i).run P w = .ok v w := by
  unfold part
  simp [run_isAgg hu, aggT, hv]
theorem run_equal_pair (T : Ty P) {t et : TypeId} {q : IntKind} {by' : Nat} {z : Value} (ht : T.und t = some (.array 2 et)) (hu : T.und et = some (.int q)) (hi : T.inf et = some (1, by', z)) (w : World) (x y : Int × Int) :
    (Op.equal t (pairV q x) (pairV q y)).run P w = .ok (decide (x = y)) w := by
  show (Op.equalIn (9998 + 1 + 1) t _ _).run P w = _
  generalize 9998 = d
  have e0 : ∀ a b : Int, (Op.equalIn (d + 1) et (.int q a) (.int q b)).run P w = .ok (a == b) w := fun a b => by
    simp only [Op.equalIn, Sem.run_bind, run_und hu, Result.andThen_ok, if_true, Sem.run_pure]
  have p0 : ∀ a b : Int, (part et #[.int q a, .int q b] 0).run P w = .ok (.int q a) w := fun a b => run_part_int T hu rfl w
  have p1 : ∀ a b : Int, (part et #[.int q a, .int q b] 1).run P w = .ok (.int q b) w := fun a b => run_part_int T hu rfl w
  unfold pairV
  rw [Op.equalIn]
  simp only [Sem.run_bind, run_und ht, Result.andThen_ok, run_size hi]
  obtain ⟨x1, x2⟩ := x
  obtain ⟨y1, y2⟩ := y
  by_cases h1 : x1 = y1
  · by_cases h2 : x2 = y2
    · simp [List.range', p0, p1, e0, h1, h2]
    · simp [List.range', p0, p1, e0, h1, h2]
  · simp [List.range', p0, p1, e0, h1]
theorem findAsking_pair (T : Ty P) {t et : TypeId} {q : IntKind} {by' : Nat} {z : Value} (ht : T.und t = some (.array 2 et)) (hu : T.und et = some (.int q)) (hi : T.inf et = some (1, by', z)) (w : World) (x : Int × Int) :
    ∀ (es : List MapEntry) (ks : List (Int × Int)) (j : Nat), es.map (·.key) = ks.map (pairV q) →
      (Instr.findAsking t (pairV q x) es j).run P w = .ok ((mpos (ks.map fun k => (k, ())) x).bind fun i => (es[i]?).map fun e => (i + j, e.val)) w
  | [], [], _, _ => rfl
  | [], _ :: _, _, h => by simp at h
  | _ :: _, [], _, h => by simp at h
  | e :: es, k :: ks, j, h => by
    simp only [List.map_cons, List.cons.injEq] at h
    obtain ⟨h1, h2⟩ := h
    have := run_equal_pair T ht hu hi w x k
    simp only [Instr.findAsking, h1, Sem.run_bind, this, Result.andThen_ok, List.map_cons, mpos]
    by_cases hk : k = x
    · subst hk; simp
    · have hk' : ¬ x = k := fun q => hk q.symm
      simp only [hk, hk', decide_false, Bool.false_eq_true, if_false]
      rw [findAsking_pair T ht hu hi w x es ks (j + 1) h2]
      cases hp : mpos (ks.map fun k => (k, ())) x with
      | none => simp
      | some i =>
        simp only [Option.map_some, Option.bind_some, List.getElem?_cons_succ]
        rw [show i + 1 + j = i + (j + 1) by omega]
def Ky.pair (T : Ty P) {t et : TypeId} (q : IntKind) {by' : Nat} {z : Value} (ht : T.und t = some (.array 2 et)) (hu : T.und et = some (.int q)) (hi : T.inf et = some (1, by', z)) (ht' : P.underlying t = some (.array 2 et)) (hu' : P.underlying et = some (.int q)) : Ky P t (Int × Int) where
  enc := pairV q
  check := fun e w x => by
    have c0 : ∀ a : Int, (Instr.checkKey e 9999 et (.int q a)).run P w = .ok () w := fun a => MapKept.run_checkKey hu' (by simp [MapKept.IsKey]) e 9998
    have p0 : ∀ a b : Int, (part et #[.int q a, .int q b] 0).run P w = .ok (.int q a) w := fun a b => run_part_int T hu rfl w
    have p1 : ∀ a b : Int, (part et #[.int q a, .int q b] 1).run P w = .ok (.int q b) w := fun a b => run_part_int T hu rfl w
    obtain ⟨a, b⟩ := x
    show (Instr.checkKey e (9999 + 1) t (pairV q (a, b))).run P w = _
    unfold pairV
    generalize 9999 = d at c0
    rw [Instr.checkKey]
    simp [List.range', run_und ht, run_size hi, p0, p1, c0]
  find := fun w x es ks h => by
    have hf := findAsking_pair T ht hu hi w x es ks 0 h
    unfold Instr.findKey
    simp only [Sem.run_bind, run_und ht, Result.andThen_ok]
    cases es with
    | nil =>
      cases ks with
      | nil => rfl
      | cons _ _ => simp at h
    | cons e es =>
      cases ks with
      | nil => simp at h
      | cons k ks =>
        simp only [List.map_cons, List.cons.injEq] at h
        have : Instr.findNow (.array 2 et) (pairV q x) (e :: es) 0 = none := by
          simp [Instr.findNow, Instr.sameNow]
        rw [this]
        simpa using hf
  stays := fun w x => by
    unfold Instr.keyThatStays pairV
    simp [Instr.sameBits]
end

section
variable {W : World}
variable {P : Program}

/-! ### kinds of things that own what is beyond their cells -/
structure Kd (α : Type) where
  size : Nat
  own : α → List Value → Hp → Prop
  rdr : α → List Value → Hp → Prop
  len : ∀ x cs H, own x cs H → cs.length = size
  plain : ∀ x cs H, own x cs H → ∀ v ∈ cs, v.oneCell' = true
  r : ∀ x cs H, own x cs H → rdr x cs H
  mono : ∀ x cs H H', rdr x cs H → (∀ c ∈ H, c ∈ H') → rdr x cs H'
  pos : 0 < size

/-- so many cells, of whatever -/
structure Rw (n : Nat) where
  val : List Value
  len : val.length = n
  plain : ∀ v ∈ val, v.oneCell' = true
instance (n : Nat) : Inhabited (Rw n) := ⟨⟨List.replicate n (.bool false), by simp, by intro v h; rw [List.mem_replicate] at h; rw [h.2]; rfl⟩⟩
def Fl.raw (n : Nat) (h : 0 < n) : Fl (Rw n) := ⟨n, fun x => x.val, fun x => x.len, fun x => x.plain, h⟩
theorem set_self {δ : Type} {l : List δ} {j : Nat} {a : δ} (h : l[j]? = some a) : l.set j a = l := by
  obtain ⟨hl, he⟩ := List.getElem?_eq_some_iff.1 h
  rw [← he]; exact List.set_getElem_self _

theorem rd_cons {δ : Type} [Inhabited δ] (y : δ) (l : List δ) (i : Nat) : rd (y :: l) ((i + 1 : Nat) : Int) = rd l (i : Int) := by
  unfold rd
  have h1 : ((i + 1 : Nat) : Int).toNat = i + 1 := by omega
  have h2 : ((i : Nat) : Int).toNat = i := by omega
  rw [h1, h2]; rfl

theorem perm_split {HL : List Hp} {j : Nat} {A B : Hp} (h : j < HL.length) : (HL.set j (A ++ B)).flatten.Perm (HL.set j A ++ [B]).flatten := by
  have h1 := flatten_set HL j _ (A ++ B) (List.getElem?_eq_getElem h)
  have h2 := flatten_set HL j _ A (List.getElem?_eq_getElem h)
  refine h1.trans ?_
  rw [List.flatten_append]
  simp only [List.flatten_cons, List.flatten_nil, List.append_nil]
  refine List.Perm.trans ?_ (List.Perm.append_right B h2.symm)
  rw [List.append_assoc, List.append_assoc]
  exact List.Perm.append_left A List.perm_append_comm
/-- two groups as one -/
theorem perm_join {HL : List Hp} {j q : Nat} {A B : Hp} (hj : HL[j]? = some A) (hq : HL[q]? = some B) (hne : j ≠ q) : HL.flatten.Perm ((HL.set j (A ++ B)).set q []).flatten := by
  have hq3 : (HL.set j (A ++ B))[q]? = some B := by rw [List.getElem?_set_ne hne]; exact hq
  have ha := flatten_erase HL j A hj
  have hb : (HL.set j (A ++ B)).flatten.Perm ((A ++ B) ++ (HL.eraseIdx j).flatten) := flatten_set HL j _ _ hj
  have hc := flatten_erase (HL.set j (A ++ B)) q B hq3
  have hd := flatten_set (HL.set j (A ++ B)) q B [] hq3
  have key : (B ++ HL.flatten).Perm (B ++ ((HL.set j (A ++ B)).set q []).flatten) := by
    refine List.Perm.trans ?_ (List.Perm.append_left B (by simpa using hd.symm))
    refine List.Perm.trans ?_ hc
    refine List.Perm.trans ?_ hb.symm
    refine (List.Perm.append_left B ha).trans ?_
    rw [← List.append_assoc]
    exact List.Perm.append_right _ List.perm_append_comm
  exact (List.perm_append_left_iff B).1 key
theorem flatten_perm_set {HL : List Hp} {j : Nat} {A B : Hp} (h : A.Perm B) : (HL.set j A).flatten.Perm (HL.set j B).flatten := by
  by_cases hj : j < HL.length
  · have h1 := flatten_set HL j _ A (List.getElem?_eq_getElem hj)
    have h2 := flatten_set HL j _ B (List.getElem?_eq_getElem hj)
    exact h1.trans ((List.Perm.append_right _ h).trans h2.symm)
  · rw [List.set_eq_of_length_le (by omega), List.set_eq_of_length_le (by omega)]

section
variable {n' : Nat} {F : Act → World → Prop} {env : Env} {HL : List Hp}
theorem at_split {j : Nat} {A B : Hp} (hj : idx j HL = some (A ++ B)) (h : AtL W n' F env (HL.set j A ++ [B])) : AtL W n' F env HL := by
  rw [idx_eq] at hj
  have hl := (List.getElem?_eq_some_iff.1 hj).1
  refine at_heap (fun w o => ?_) h
  refine o.perm ?_
  have e : HL.set j (A ++ B) = HL := set_self hj
  have := perm_split (HL := HL) (j := j) (A := A) (B := B) hl
  rw [e] at this
  exact this
/-- some groups, as one, last -/
theorem at_gather (js : List Nat) {As R : List Hp} (hs : sel js HL = (As, R)) (h : AtL W n' F env (R ++ [As.flatten])) : AtL W n' F env HL :=
  at_heap (fun w o => o.perm ((sel_perm' hs).trans (by
    rw [List.flatten_append]
    simp only [List.flatten_cons, List.flatten_nil, List.append_nil]
    exact List.perm_append_comm))) h
/-- one group, the last, as those that it is made of -/
theorem at_spread {R As : List Hp} (h : AtL W n' F env (R ++ As)) : AtL W n' F env (R ++ [As.flatten]) :=
  at_heap (fun w o => o.perm (by
    rw [List.flatten_append, List.flatten_append]
    simp only [List.flatten_cons, List.flatten_nil, List.append_nil]
    exact List.Perm.refl _)) h
end

section
variable {α : Type} [Inhabited α] (kd : Kd α)
def Ldr : List α → List (Rw kd.size) → Hp → Prop
  | [], cc, R => cc = [] ∧ R = []
  | x :: xs, cc, R => ∃ c Hx cc' R', kd.own x c.val Hx ∧ cc = c :: cc' ∧ R = Hx ++ R' ∧ Ldr xs cc' R'
/-- a slice of such things, owned -/
def SliceD (E : TypeId) (xs : List α) (a : Option Addr) (cap : Nat) (H : Hp) : Prop :=
  ∃ cc H0 R, SliceO (Fl.raw kd.size kd.pos) E cc a cap H0 ∧ Ldr kd xs cc R ∧ H = H0 ++ R
/-- a slice of such things that may be read -/
def SliceDR (xs : List α) (a : Option Addr) (H : Hp) : Prop :=
  ∃ cc, SliceR (Fl.raw kd.size kd.pos) cc a H ∧ cc.length = xs.length ∧ ∀ i, i < xs.length → kd.rdr (rd xs (i : Int)) (rd cc (i : Int)).val H
/-- one place's cells are these, and what they own is elsewhere -/
def SliceDH (E : TypeId) (xs : List α) (a : Option Addr) (cap : Nat) (i : Int) (cs : List Value) (H : Hp) : Prop :=
  (0 ≤ i ∧ i < (xs.length : Int)) ∧ ∃ cc H0 R, SliceO (Fl.raw kd.size kd.pos) E cc a cap H0 ∧ cc.length = xs.length ∧ (rd cc i).val = cs ∧ H = H0 ++ R ∧
    ∀ x' (c' : Rw kd.size) Hy, kd.own x' c'.val Hy → ∃ R2, R2.Perm (R ++ Hy) ∧ Ldr kd (xs.set i.toNat x') (cc.set i.toNat c') R2
/-- cells at a place behind a slice's beginning -/
def CellsAt (a : Option Addr) (o : Nat) (cs : List Value) (H : Hp) : Prop :=
  ∃ b off arr E fr, a = some ⟨b, off, none⟩ ∧ (b, Obj.cells arr E fr) ∈ H ∧ ∀ f v, cs[f]? = some v → arr[off + o + f]? = some v
variable {kd} {E : TypeId}

theorem ldr_len : ∀ (xs : List α) (cc : List (Rw kd.size)) (R : Hp), Ldr kd xs cc R → cc.length = xs.length
  | [], _, _, h => by rw [h.1]; rfl
  | x :: xs, _, _, h => by
    obtain ⟨c, Hx, cc', R', _, rfl, _, h4⟩ := h
    simp [ldr_len xs cc' R' h4]
theorem ldr_append : ∀ (xs : List α) (cc : List (Rw kd.size)) (R : Hp) (ys : List α) (dd : List (Rw kd.size)) (S : Hp), Ldr kd xs cc R → Ldr kd ys dd S → Ldr kd (xs ++ ys) (cc ++ dd) (R ++ S)
  | [], _, _, ys, dd, S, h, h2 => by obtain ⟨rfl, rfl⟩ := h; exact h2
  | x :: xs, _, _, ys, dd, S, h, h2 => by
    obtain ⟨c, Hx, cc', R', h1, rfl, rfl, h4⟩ := h
    exact ⟨c, Hx, cc' ++ dd, R' ++ S, h1, rfl, by rw [List.append_assoc], ldr_append xs cc' R' ys dd S h4 h2⟩
theorem ldr_one {x : α} {c : Rw kd.size} {Hx : Hp} (h : kd.own x c.val Hx) : Ldr kd [x] [c] Hx := ⟨c, Hx, [], [], h, rfl, by simp, rfl, rfl⟩
theorem ldr_rep {x : α} {c : Rw kd.size} (h : kd.own x c.val []) : ∀ m : Nat, Ldr kd (List.replicate m x) (List.replicate m c) []
  | 0 => ⟨rfl, rfl⟩
  | m + 1 => ⟨c, [], _, [], h, rfl, rfl, ldr_rep h m⟩
theorem ldr_take : ∀ (xs : List α) (cc : List (Rw kd.size)) (R : Hp) (i : Nat), Ldr kd xs cc R → i < xs.length →
    ∃ Hx R', kd.own (rd xs (i : Int)) (rd cc (i : Int)).val Hx ∧ R.Perm (R' ++ Hx) ∧
      ∀ x' (c' : Rw kd.size) Hy, kd.own x' c'.val Hy → ∃ R2, R2.Perm (R' ++ Hy) ∧ Ldr kd (xs.set i x') (cc.set i c') R2
  | [], _, _, _, _, h => by simp at h
  | x :: xs, _, _, 0, h, _ => by
    obtain ⟨c, Hx, cc', R', h1, rfl, rfl, h4⟩ := h
    exact ⟨Hx, R', h1, List.perm_append_comm, fun x' c' Hy hy => ⟨Hy ++ R', List.perm_append_comm, ⟨c', Hy, cc', R', hy, rfl, rfl, h4⟩⟩⟩
  | x :: xs, _, _, i + 1, h, hi => by
    obtain ⟨c, Hx, cc', R', h1, rfl, rfl, h4⟩ := h
    obtain ⟨H1, R1, e1, e4, e5⟩ := ldr_take xs cc' R' i h4 (by simpa using hi)
    refine ⟨H1, Hx ++ R1, by rw [rd_cons, rd_cons]; exact e1, by rw [List.append_assoc]; exact List.Perm.append_left Hx e4, fun x' c' Hy hy => ?_⟩
    obtain ⟨R2, p2, l2⟩ := e5 x' c' Hy hy
    exact ⟨Hx ++ R2, by rw [List.append_assoc]; exact List.Perm.append_left Hx p2, ⟨c, Hx, _, R2, h1, rfl, rfl, l2⟩⟩
theorem ldr_rdr {xs : List α} {cc : List (Rw kd.size)} {R : Hp} (h : Ldr kd xs cc R) {i : Nat} (hi : i < xs.length) : kd.rdr (rd xs (i : Int)) (rd cc (i : Int)).val R := by
  obtain ⟨Hx, R', e1, e2, _⟩ := ldr_take xs cc R i h hi
  exact kd.mono _ _ _ _ (kd.r _ _ _ e1) (fun c hc => e2.mem_iff.2 (List.mem_append_right _ hc))

theorem SliceD.nil : SliceD kd E ([] : List α) none 0 [] := ⟨[], [], [], SliceO.nil, ⟨rfl, rfl⟩, rfl⟩
theorem SliceD.cap_le {xs : List α} {a : Option Addr} {cap : Nat} {H : Hp} (h : SliceD kd E xs a cap H) : xs.length ≤ cap := by
  obtain ⟨cc, H0, R, h0, hl, _⟩ := h
  rw [← ldr_len _ _ _ hl]; exact h0.cap_le
theorem SliceD.r {xs : List α} {a : Option Addr} {cap : Nat} {H : Hp} (h : SliceD kd E xs a cap H) : SliceDR kd xs a H := by
  obtain ⟨cc, H0, R, h0, hl, rfl⟩ := h
  exact ⟨cc, h0.r.mono (fun c hc => List.mem_append_left _ hc), ldr_len _ _ _ hl, fun i hi => kd.mono _ _ _ _ (ldr_rdr hl hi) (fun c hc => List.mem_append_right _ hc)⟩
theorem SliceDR.nil {H : Hp} : SliceDR kd ([] : List α) none H := ⟨[], .inl rfl, rfl, fun i hi => by simp at hi⟩
theorem SliceDR.mono {xs : List α} {a : Option Addr} {H H' : Hp} (h : SliceDR kd xs a H) (hs : ∀ c ∈ H, c ∈ H') : SliceDR kd xs a H' := by
  obtain ⟨cc, h1, h2, h3⟩ := h
  exact ⟨cc, h1.mono hs, h2, fun i hi => kd.mono _ _ _ _ (h3 i hi) hs⟩
theorem SliceDR.addr {xs : List α} {a : Option Addr} {H : Hp} (h : SliceDR kd xs a H) {i : Int} (h0 : 0 ≤ i) (h1 : i < xs.length) : ∃ b off, a = some ⟨b, off, none⟩ := by
  obtain ⟨cc, h2, h3, _⟩ := h
  exact h2.addr h0 (by rw [h3]; exact h1)
theorem down_of {HL : List Hp} {j cap : Nat} {Hj : Hp} {xs : List α} {a : Option Addr} (h : SliceD kd E xs a cap Hj) (hj : idx j HL = some Hj) : SliceDR kd xs a HL.flatten :=
  h.r.mono fun _ hc => mem_group (by rw [← idx_eq]; exact hj) hc
theorem dro_of {HL : List Hp} {j : Nat} {Hj : Hp} {xs : List α} {a : Option Addr} (h : SliceDR kd xs a Hj) (hj : idx j HL = some Hj) : SliceDR kd xs a HL.flatten :=
  h.mono fun _ hc => mem_group (by rw [← idx_eq]; exact hj) hc
/-- an element as it stands there -/
theorem SliceDR.view {xs : List α} {a : Option Addr} {H : Hp} (h : SliceDR kd xs a H) {j : Int} (hj : 0 ≤ j ∧ j < (xs.length : Int)) :
    ∃ cs, CellsAt a (j.toNat * kd.size) cs H ∧ kd.rdr (rd xs j) cs H := by
  obtain ⟨cc, h1, h2, h3⟩ := h
  obtain ⟨b, off, ha⟩ := h1.addr hj.1 (by rw [h2]; exact hj.2)
  obtain ⟨arr, E, fr, hm, hc⟩ := h1.elem ha hj.1 (by rw [h2]; exact hj.2)
  have h4 := h3 j.toNat (by omega)
  rw [show ((j.toNat : Nat) : Int) = j by omega] at h4
  exact ⟨(rd cc j).val, ⟨b, off, arr, E, fr, ha, hm, fun f v hv => hc f v hv⟩, h4⟩
theorem CellsAt.mono {a : Option Addr} {o : Nat} {cs : List Value} {H H' : Hp} (h : CellsAt a o cs H) (hs : ∀ c ∈ H, c ∈ H') : CellsAt a o cs H' := by
  obtain ⟨b, off, arr, E, fr, ha, hm, hc⟩ := h
  exact ⟨b, off, arr, E, fr, ha, hs _ hm, hc⟩
theorem in_view {HL : List Hp} {j b off o : Nat} {Hj : Hp} {a : Option Addr} {cs : List Value} (hj : idx j HL = some Hj) (h : CellsAt a o cs Hj) (ha : a = some ⟨b, off, none⟩) (f : Nat) {v : Value} (hv : idx f cs = some v) :
    ∃ arr E fr, (b, Obj.cells arr E fr) ∈ HL.flatten ∧ arr[off + o + f]? = some v := by
  obtain ⟨b', off', arr, E, fr, ha', hm, hc⟩ := h
  rw [ha] at ha'
  simp at ha'
  obtain ⟨rfl, rfl⟩ := ha'
  exact ⟨arr, E, fr, mem_group (by rw [← idx_eq]; exact hj) hm, hc f v (by rw [← idx_eq]; exact hv)⟩
theorem in_viewA {HL : List Hp} {j b off o : Nat} {Hj : Hp} {a : Option Addr} {cs : List Value} (hj : idx j HL = some Hj) (h : CellsAt a o cs Hj) (ha : a = some ⟨b, off, none⟩) (f : Nat) {vs : List Value}
    (hv : (cs.drop f).take vs.length = vs) : ∃ arr E fr, (b, Obj.cells arr E fr) ∈ HL.flatten ∧ ∀ i v, vs[i]? = some v → arr[off + o + f + i]? = some v := by
  obtain ⟨b', off', arr, E, fr, ha', hm, hc⟩ := h
  rw [ha] at ha'
  simp at ha'
  obtain ⟨rfl, rfl⟩ := ha'
  refine ⟨arr, E, fr, mem_group (by rw [← idx_eq]; exact hj) hm, fun i v hi => ?_⟩
  rw [← hv] at hi
  have hl := (List.getElem?_eq_some_iff.1 hi).1
  rw [List.getElem?_take_of_lt (by simp at hl; omega), List.getElem?_drop] at hi
  rw [Nat.add_assoc]
  exact hc (f + i) v hi
theorem SliceDH.cells {xs : List α} {a : Option Addr} {cap : Nat} {i : Int} {cs : List Value} {H : Hp} (h : SliceDH kd E xs a cap i cs H) : CellsAt a (i.toNat * kd.size) cs H := by
  obtain ⟨hi, cc, H0, R, h0, hl, rfl, rfl, _⟩ := h
  obtain ⟨b, off, ha⟩ := h0.r.addr hi.1 (by rw [hl]; exact hi.2)
  obtain ⟨arr, E', fr, hm, hc⟩ := h0.r.elem ha hi.1 (by rw [hl]; exact hi.2)
  exact ⟨b, off, arr, E', fr, ha, List.mem_append_left _ hm, fun f v hv => hc f v hv⟩
theorem SliceDH.addr {xs : List α} {a : Option Addr} {cap : Nat} {i : Int} {cs : List Value} {H : Hp} (h : SliceDH kd E xs a cap i cs H) : ∃ b off, a = some ⟨b, off, none⟩ := by
  obtain ⟨b, off, _, _, _, ha, _⟩ := h.cells
  exact ⟨b, off, ha⟩
theorem SliceDH.cap_le {xs : List α} {a : Option Addr} {cap : Nat} {i : Int} {cs : List Value} {H : Hp} (h : SliceDH kd E xs a cap i cs H) : xs.length ≤ cap := by
  obtain ⟨hi, cc, H0, R, h0, hl, rfl, rfl, _⟩ := h
  rw [← hl]; exact h0.cap_le

section
variable {n' : Nat} {F : Act → World → Prop} {env : Env} {HL : List Hp} {xs : List α} {a : Option Addr} {cap : Nat}
/-- an element is taken out -/
theorem at_dsopen {H : Hp} {j : Nat} {i : Int} (hj : idx j HL = some H) (so : SliceD kd E xs a cap H) (hi : 0 ≤ i ∧ i < (xs.length : Int))
    (h : ∀ cs Hx H', kd.own (rd xs i) cs Hx → SliceDH kd E xs a cap i cs H' → AtL W n' F env (HL.set j H' ++ [Hx])) : AtL W n' F env HL := by
  obtain ⟨cc, H0, R, h0, hl, rfl⟩ := so
  obtain ⟨Hx, R', e1, e2, e3⟩ := ldr_take xs cc R i.toNat hl (by omega)
  rw [show ((i.toNat : Nat) : Int) = i by omega] at e1
  refine at_heap (fun w o => ?_) (h (rd cc i).val Hx (H0 ++ R') e1 ⟨hi, cc, H0, R', h0, ldr_len _ _ _ hl, rfl, rfl, e3⟩)
  rw [idx_eq] at hj
  have hjl := (List.getElem?_eq_some_iff.1 hj).1
  refine o.perm ?_
  have e : HL.set j (H0 ++ R) = HL := set_self hj
  have h1 : HL.flatten.Perm (HL.set j ((H0 ++ R') ++ Hx)).flatten := by
    conv => lhs; rw [← e]
    refine flatten_perm_set ?_
    rw [List.append_assoc]
    exact List.Perm.append_left H0 e2
  exact h1.trans (perm_split hjl)
/-- an element of the same cells is laid back -/
theorem at_dsclose {H Hx : Hp} {j q : Nat} {i : Int} {cs : List Value} (x' : α) (hj : idx j HL = some H) (so : SliceDH kd E xs a cap i cs H) (hq : idx q HL = some Hx) (hne : Nat.beq j q = false) (hx : kd.own x' cs Hx)
    (h : ∀ H', SliceD kd E (xs.set i.toNat x') a cap H' → AtL W n' F env ((HL.set j H').set q [])) : AtL W n' F env HL := by
  obtain ⟨hi, cc, H0, R, h0, hl, h2, rfl, h3⟩ := so
  have hne' : j ≠ q := fun e => by subst e; simp at hne
  obtain ⟨R2, p2, l2⟩ := h3 x' (rd cc i) Hx (by rw [h2]; exact hx)
  have ec : cc.set i.toNat (rd cc i) = cc := by
    rw [rd_eq (by omega)]; exact List.set_getElem_self _
  rw [ec] at l2
  refine at_heap (fun w o => ?_) (h (H0 ++ R2) ⟨cc, H0, R2, h0, l2, rfl⟩)
  rw [idx_eq] at hj hq
  refine o.perm ?_
  refine (perm_join hj hq hne').trans ?_
  have : ∀ (L : List Hp) (A : Hp), ((L.set j A).set q []) = ((L.set q []).set j A) := fun L A => List.set_comm _ _ hne'
  rw [this, this]
  refine flatten_perm_set ?_
  rw [List.append_assoc]
  exact List.Perm.append_left H0 p2.symm
end

section rules
variable {n : Nat} {Q : Exit → Act → World → Prop} {env : Env} {HL : List Hp} {ops : Array Oper} {i : Nat} {K : Act → World → Prop} {o : Oper}
/-- a store into what is taken out -/
theorem at_dst (T : Ty P) {b off t : Nat} {x y : Operand} {v : Value} {sz by' cap : Nat} {z : Value} {Hj : Hp} {xs : List α} {a : Option Addr} {j : Int} {cs : List Value} (g f : Nat) (cs' : List Value)
    (hsl : slot0 ops env i = some o) (hop : o.op = .store t x y) (hx : ev env x = some (.pointer (some ⟨b, off + j.toNat * kd.size + f, none⟩)))
    (hy : ev env y = some v) (hi : T.inf t = some (sz, by', z)) (hj : idx g HL = some Hj) (hs : SliceDH kd E xs a cap j cs Hj) (ha : a = some ⟨b, off, none⟩)
    (hl : Nat.beq (cellsL v).length sz = true) (hf : Nat.ble (f + sz) kd.size = true) (hp : (cellsL v).all (·.oneCell') = true) (he : splice cs f (cellsL v) = cs')
    (h : ∀ H', SliceDH kd E xs a cap j cs' H' → AtL W n K env (HL.set g H')) : AtL W n (wpOp P ops Q i K) env HL := by
  obtain ⟨hb, cc, H0, R, h0, hcl, h2, rfl, h3⟩ := hs
  have hj' := hj
  rw [idx_eq] at hj
  have hgl := (List.getElem?_eq_some_iff.1 hj).1
  refine at_split hj' ?_
  have hg : idx g (HL.set g H0 ++ [R]) = some H0 := by
    rw [idx_eq, List.getElem?_append_left (by simpa using hgl)]; exact List.getElem?_set_self hgl
  have hlen : cs.length = kd.size := by rw [← h2]; exact (rd cc j).len
  have hle := Nat.le_of_ble_eq_true hf
  have hlv := Nat.eq_of_beq_eq_true hl
  have hcs' : cs'.length = kd.size ∧ ∀ v ∈ cs', v.oneCell' = true := by
    subst he
    refine ⟨by unfold splice; simp; omega, fun u hu => ?_⟩
    unfold splice at hu
    rcases List.mem_append.1 hu with hu | hu
    · exact (rd cc j).plain u (by rw [h2]; exact List.mem_of_mem_take hu)
    · rcases List.mem_append.1 hu with hu | hu
      · exact List.all_eq_true.1 hp u hu
      · exact (rd cc j).plain u (by rw [h2]; exact List.mem_of_mem_drop hu)
  refine at_se (k := Fl.raw kd.size kd.pos) T g f (⟨cs', hcs'.1, hcs'.2⟩ : Rw kd.size) hsl hop hx hy hi hg h0 ha ⟨hb.1, by rw [hcl]; exact hb.2⟩ hl hf ?_ (fun H' so' => ?_)
  · show cs' = splice (rd cc j).val f (cellsL v)
    rw [h2]; exact he.symm
  · refine at_heap (fun w o => ?_) (h (H' ++ R) ⟨hb, _, H', R, so', by simp [hcl], ?_, rfl, fun x' c' Hy hy => ?_⟩)
    · refine o.perm ?_
      have e : (HL.set g H0 ++ [R]).set g H' = HL.set g H' ++ [R] := by
        rw [List.set_append_left _ _ (by simpa using hgl)]; simp
      rw [e]
      exact (perm_split hgl).symm
    · rw [rd_eq (by simp; omega)]; simp
    · obtain ⟨R2, p2, l2⟩ := h3 x' c' Hy hy
      exact ⟨R2, p2, by simpa using l2⟩

/-- a slice of such things appended to one's own: what they own goes over -/
theorem at_dap (T : Ty P) {d g q : Nat} {s x : Operand} {t t' E' : TypeId} {xs ys : List α} {a a2 : Option Addr} {cap cap2 sz by' : Nat} {z : Value} {Hj Hq : Hp}
    (hsl : slot n ops env i = some (o, d)) (hop : o.op = .call ⟨.builtin .append, #[s, x], #[t, t']⟩)
    (hs : ev env s = some (.slice a xs.length cap)) (hx : ev env x = some (.slice a2 ys.length cap2)) (hu : T.und t = some (.slice E)) (hu' : T.und t' = some (.slice E'))
    (hi : T.inf E = some (sz, by', z)) (hk : kd.size = sz) (hz : (cellsL z).length = sz) (hj : idx g HL = some Hj) (so : SliceD kd E xs a cap Hj) (hq : idx q HL = some Hq) (hne : Nat.beq g q = false) (sy : SliceD kd E ys a2 cap2 Hq)
    (hb : xs.length + ys.length ≤ 1099511627776) (hby : Nat.ble by' 128 = true)
    (h : ∀ a' cap' H', SliceD kd E (xs ++ ys) a' cap' H' → AtL W n K ((d, .slice a' (xs ++ ys).length cap') :: env) ((HL.set g H').set q [])) : AtL W n (wpOp P ops Q i K) env HL := by
  obtain ⟨cc, H0, R, h0, hl, rfl⟩ := so
  obtain ⟨dd, G0, S, g0, gl, rfl⟩ := sy
  have hne' : g ≠ q := fun e => by subst e; simp at hne
  have l1 := ldr_len _ _ _ hl
  have l2 := ldr_len _ _ _ gl
  have hj' := hj
  have hq' := hq
  rw [idx_eq] at hj hq
  have hgl := (List.getElem?_eq_some_iff.1 hj).1
  have hql := (List.getElem?_eq_some_iff.1 hq).1
  refine at_split hj' ?_
  have e1 : idx g (HL.set g H0 ++ [R]) = some H0 := by
    rw [idx_eq, List.getElem?_append_left (by simpa using hgl)]; exact List.getElem?_set_self hgl
  have sr : SliceR (Fl.raw kd.size kd.pos) dd a2 (HL.set g H0 ++ [R]).flatten := g0.r.mono (fun c hc => by
    refine mem_group (j := q) (Hj := G0 ++ S) ?_ (List.mem_append_left _ hc)
    rw [List.getElem?_append_left (by simpa using hql), List.getElem?_set_ne hne']; exact hq)
  refine at_ap (k := Fl.raw kd.size kd.pos) T hsl hop (by rw [l1]; exact hs) (by rw [l2]; exact hx) hu hu' hi hk hz e1 h0 sr (by rw [l1, l2]; exact hb) hby (fun a' cap' H' so' => ?_)
  have hh := h a' cap' (H' ++ (R ++ S)) ⟨cc ++ dd, H', R ++ S, so', ldr_append _ _ _ _ _ _ hl gl, rfl⟩
  have e0 : (cc ++ dd).length = (xs ++ ys).length := by simp [l1, l2]
  rw [e0]
  refine at_heap (fun w o => ?_) hh
  have e : (HL.set g H0 ++ [R]).set g H' = HL.set g H' ++ [R] := by
    rw [List.set_append_left _ _ (by simpa using hgl)]; simp
  rw [e] at o
  -- the array of ys stays behind
  have o2 : Own W w ((HL.set g (H' ++ R))).flatten := o.perm (perm_split hgl).symm
  have hq2 : (HL.set g (H' ++ R))[q]? = some (G0 ++ S) := by rw [List.getElem?_set_ne hne']; exact hq
  have o3 : Own W w ((HL.set g (H' ++ R)).set q S).flatten := by
    refine own_set hq2 ?_
    have := own_get hq2 o2
    rw [List.append_assoc] at this
    exact this.right
  have hg4 : ((HL.set g (H' ++ R)).set q S)[g]? = some (H' ++ R) := by rw [List.getElem?_set_ne (Ne.symm hne')]; exact List.getElem?_set_self hgl
  have hq4 : ((HL.set g (H' ++ R)).set q S)[q]? = some S := List.getElem?_set_self (by simpa using hql)
  refine o3.perm ((perm_join hg4 hq4 hne').trans ?_)
  have e5 : (((HL.set g (H' ++ R)).set q S).set g (H' ++ R ++ S)).set q [] = (HL.set g (H' ++ (R ++ S))).set q [] := by
    rw [List.set_comm _ _ (Ne.symm hne'), List.set_set, List.set_set, List.append_assoc]
  rw [e5]

/-- a slice of one such thing -/
theorem at_dbs (T : Ty P) {d t sz by' q : Nat} {z : Value} {parts : Array (Nat × Operand)} {v : Value} {c : List Value} {Hx : Hp} (x : α)
    (hsl : slot n ops env i = some (o, d)) (hop : o.op = .buildSlice t 1 parts) (hu : T.und t = some (.slice E)) (hi : T.inf E = some (sz, by', z)) (hk : kd.size = sz) (hz : (cellsL z).length = sz)
    (hn : Nat.ble (1 * sz) 16777216 = true) (hp : (parts.toList.mapM fun p => (ev env p.2).map fun v => (p.1, v)) = some [(0, v)]) (hv : cellsL v = c)
    (hq : idx q HL = some Hx) (hx : kd.own x c Hx)
    (h : ∀ a H', SliceD kd E [x] a (List.length [x]) H' → AtL W n K ((d, .slice a (List.length [x]) (List.length [x])) :: env) (HL.set q [] ++ [H'])) : AtL W n (wpOp P ops Q i K) env HL := by
  have hcl := kd.len _ _ _ hx
  have hcp := kd.plain _ _ _ hx
  rw [idx_eq] at hq
  have hql := (List.getElem?_eq_some_iff.1 hq).1
  refine at_bs (k := Fl.raw kd.size kd.pos) T [(⟨c, hcl, hcp⟩ : Rw kd.size)] hsl hop hu hi hz hn hp ?_ rfl (fun a H' so => ?_)
  · subst hv
    have e : (Nat.beq (cellsL v).length sz && Nat.ble (0 * sz + (cellsL v).length) ((List.range (1 * sz)).map fun i => ((cellsL z)[i % sz]?).getD default).length) = true := by
      rw [hcl, hk]; simp
    simp only [fillL, e, cond_true]
    simp only [row, List.map_cons, List.map_nil, List.flatten_cons, List.flatten_nil, List.append_nil, Fl.raw]
    have e2 : splice ((List.range (1 * sz)).map fun i => ((cellsL z)[i % sz]?).getD default) (0 * sz) (cellsL v) = cellsL v := by
      unfold splice
      rw [Nat.zero_mul, List.take_zero, List.nil_append, Nat.zero_add, List.drop_of_length_le (by simp; omega), List.append_nil]
    rw [e2]
  · refine at_heap (fun w o => ?_) (h a (H' ++ Hx) ⟨_, H', Hx, so, ldr_one hx, rfl⟩)
    rw [List.flatten_append] at o ⊢
    simp only [List.flatten_cons, List.flatten_nil, List.append_nil] at o ⊢
    refine o.perm ?_
    have h1 := flatten_erase HL q Hx hq
    have h2 := flatten_set HL q Hx [] hq
    simp only [List.nil_append] at h2
    refine (List.Perm.append_right H' h1).trans ?_
    refine List.Perm.trans ?_ (List.Perm.append_right _ h2.symm)
    rw [List.append_assoc]
    refine List.perm_append_comm.trans ?_
    rw [List.append_assoc]
/-- a new slice of so many zeroes -/
theorem at_dmk (T : Ty P) {d t : Nat} {x y : Operand} {m : Int} {kk kk' : IntKind} {sz by' : Nat} {z : Value} (x0 : α)
    (hs : slot n ops env i = some (o, d)) (hop : o.op = .makeSlice t x y) (hx : ev env x = some (.int kk m)) (hy : ev env y = some (.int kk' m))
    (hu : T.und t = some (.slice E)) (hi : T.inf E = some (sz, by', z)) (hk : kd.size = sz) (hz : kd.own x0 (cellsL z) []) (h0 : 0 ≤ m ∧ m ≤ 1099511627776) (hby : Nat.ble by' 128 = true)
    (h : ∀ a cap H', SliceD kd E (List.replicate m.toNat x0) a cap H' → AtL W n K ((d, .slice a (List.replicate m.toNat x0).length cap) :: env) (HL ++ [H'])) : AtL W n (wpOp P ops Q i K) env HL := by
  refine at_mk (k := Fl.raw kd.size kd.pos) T (⟨cellsL z, kd.len _ _ _ hz, kd.plain _ _ _ hz⟩ : Rw kd.size) hs hop hx hy hu hi hk rfl h0 hby (fun a cap H' so => ?_)
  have := h a cap H' ⟨_, H', [], so, ldr_rep hz _, by simp⟩
  simpa using this
end rules
end
end

section
variable {W : World}
variable {P : Program}

/-! ### maps whose values are slices of any kind; some keys' slices are elsewhere for good -/
section
variable {κ α : Type} [DecidableEq κ] {t : TypeId}
def mput (m : List (κ × α)) (x : κ) (v : α) : List (κ × α) := if mhas m x then mset m x v else m
theorem mput_self [Inhabited α] : ∀ (m : List (κ × α)) (x : κ), mput m x (mval m x) = m
  | [], x => rfl
  | e :: r, x => by
    have ih := mput_self r x
    unfold mput mhas mval at ih ⊢
    simp only [mget, mset]
    by_cases hk : e.1 = x
    · subst hk; simp
    · simp only [hk, if_false]
      split at ih
      · rename_i h
        simp only [h, if_true, ih]
      · rename_i h
        simp only [h]; rfl
variable (S : List α → Option Addr → Nat → Hp → Prop)
def Lgr (gone : List κ) : List (κ × List α) → List (κ × Hd) → Hp → Prop
  | [], hs, R => hs = [] ∧ R = []
  | e :: r, hs, R => ∃ a n c Hx hs' R', ((e.1 ∈ gone ∧ Hx = []) ∨ (e.1 ∉ gone ∧ S e.2 a c Hx ∧ n = e.2.length)) ∧ hs = (e.1, (a, n, c)) :: hs' ∧ R = Hx ++ R' ∧ Lgr gone r hs' R'
variable {S}
theorem lgr_more {gone : List κ} (x : κ) : ∀ (xs : List (κ × List α)) (hs : List (κ × Hd)) (R : Hp), Lgr S gone xs hs R → ∃ R2 R3, R.Perm (R2 ++ R3) ∧ Lgr S (x :: gone) xs hs R2
  | [], _, _, h => by obtain ⟨rfl, rfl⟩ := h; exact ⟨[], [], List.Perm.refl _, rfl, rfl⟩
  | e :: r, _, _, h => by
    obtain ⟨a, n, c, Hx, hs', R', h1, rfl, rfl, h4⟩ := h
    obtain ⟨R2, R3, p, l⟩ := lgr_more x r hs' R' h4
    rcases h1 with ⟨hg, rfl⟩ | ⟨hg, hs1, rfl⟩
    · exact ⟨R2, R3, p, a, n, c, [], hs', R2, .inl ⟨List.mem_cons_of_mem _ hg, rfl⟩, rfl, rfl, l⟩
    · by_cases hk : e.1 = x
      · refine ⟨R2, Hx ++ R3, ?_, a, _, c, [], hs', R2, .inl ⟨by rw [hk]; exact List.mem_cons_self .., rfl⟩, rfl, rfl, l⟩
        refine (List.Perm.append_left Hx p).trans ?_
        rw [← List.append_assoc, ← List.append_assoc]
        exact List.Perm.append_right _ List.perm_append_comm
      · refine ⟨Hx ++ R2, R3, by rw [List.append_assoc]; exact List.Perm.append_left Hx p, a, _, c, Hx, hs', R2, .inr ⟨?_, hs1, rfl⟩, rfl, rfl, l⟩
        intro hm
        rcases List.mem_cons.1 hm with h | h
        · exact hk h
        · exact hg h
theorem lgr_take (h0 : S [] none 0 []) {gone : List κ} : ∀ (xs : List (κ × List α)) (hs : List (κ × Hd)) (R : Hp) (x : κ), x ∉ gone → Lgr S gone xs hs R →
    ∃ a c Hx R', S (mval xs x) a c Hx ∧ mval hs x = (a, (mval xs x).length, c) ∧ R.Perm (R' ++ Hx) ∧
      (∀ ys a2 c2 Hy, S ys a2 c2 Hy → ∃ R2, R2.Perm (R' ++ Hy) ∧ Lgr S gone (mset xs x ys) (mset hs x (a2, ys.length, c2)) R2) ∧
      (∀ ys Hy, ys.length = (mval xs x).length → S ys a c Hy → ∃ R2 R3, (R' ++ Hy).Perm (R2 ++ R3) ∧ Lgr S gone (mput xs x ys) hs R2) ∧
      (∃ R2 R3, R'.Perm (R2 ++ R3) ∧ Lgr S (x :: gone) xs hs R2)
  | [], _, _, x, hx, h => by
    obtain ⟨rfl, rfl⟩ := h
    refine ⟨none, 0, [], [], h0, rfl, by simp, fun ys a2 c2 Hy hy => ⟨Hy, by simp, a2, _, c2, Hy, [], [], .inr ⟨hx, hy, rfl⟩, rfl, by simp, rfl, rfl⟩, fun ys Hy hl hy => ⟨[], Hy, by simp, ?_⟩, [], [], by simp, rfl, rfl⟩
    exact ⟨rfl, rfl⟩
  | e :: r, hs, R, x, hx, h => by
    obtain ⟨a, n, c, Hx, hs', R', h1, rfl, rfl, h4⟩ := h
    by_cases hk : e.1 = x
    · have hng : e.1 ∉ gone := by rw [hk]; exact hx
      rcases h1 with ⟨hg, _⟩ | ⟨_, hs1, rfl⟩
      · exact absurd hg hng
      have e1 : mval (e :: r) x = e.2 := by simp [mval, mget, hk]
      have e2 : mval ((e.1, (a, e.2.length, c)) :: hs') x = (a, e.2.length, c) := by simp [mval, mget, hk]
      refine ⟨a, c, Hx, R', by rw [e1]; exact hs1, by rw [e1, e2], List.perm_append_comm, fun ys a2 c2 Hy hy => ⟨Hy ++ R', List.perm_append_comm, ?_⟩, fun ys Hy hl hy => ⟨Hy ++ R', [], by simpa using List.perm_append_comm, ?_⟩, ?_⟩
      · simp only [mset, hk, if_true]
        exact ⟨a2, _, c2, Hy, hs', R', .inr ⟨hx, hy, rfl⟩, rfl, rfl, h4⟩
      · have : mput (e :: r) x ys = (x, ys) :: r := by simp [mput, mhas, mget, mset, hk]
        rw [this]
        rw [e1] at hl
        exact ⟨a, _, c, Hy, hs', R', .inr ⟨hx, hy, rfl⟩, by rw [hl, hk], rfl, h4⟩
      · obtain ⟨R2, R3, p, l⟩ := lgr_more x r hs' R' h4
        exact ⟨R2, R3, p, a, _, c, [], hs', R2, .inl ⟨by rw [hk]; exact List.mem_cons_self .., rfl⟩, rfl, rfl, l⟩
    · obtain ⟨a1, c1, H1, R1, q1, q2, q3, q4, q5, q6⟩ := lgr_take h0 r hs' R' x hx h4
      have e1 : mval (e :: r) x = mval r x := by simp [mval, mget, hk]
      have e2 : mval ((e.1, (a, n, c)) :: hs') x = mval hs' x := by simp [mval, mget, hk]
      refine ⟨a1, c1, H1, Hx ++ R1, by rw [e1]; exact q1, by rw [e1, e2]; exact q2, by rw [List.append_assoc]; exact List.Perm.append_left Hx q3, fun ys a2 c2 Hy hy => ?_, fun ys Hy hl hy => ?_, ?_⟩
      · obtain ⟨R2, p2, l2⟩ := q4 ys a2 c2 Hy hy
        refine ⟨Hx ++ R2, by rw [List.append_assoc]; exact List.Perm.append_left Hx p2, ?_⟩
        simp only [mset, hk, if_false]
        exact ⟨a, n, c, Hx, _, R2, h1, rfl, rfl, l2⟩
      · rw [e1] at hl
        obtain ⟨R2, R3, p2, l2⟩ := q5 ys Hy hl hy
        refine ⟨Hx ++ R2, R3, by rw [List.append_assoc, List.append_assoc]; exact List.Perm.append_left Hx p2, ?_⟩
        have : mput (e :: r) x ys = e :: mput r x ys := by
          unfold mput mhas
          simp only [mget, mset, hk, if_false]
          split <;> rfl
        rw [this]
        exact ⟨a, n, c, Hx, _, R2, h1, rfl, rfl, l2⟩
      · obtain ⟨R2, R3, p2, l2⟩ := q6
        rcases h1 with ⟨hg, rfl⟩ | ⟨hg, hs1, rfl⟩
        · exact ⟨R2, R3, p2, a, n, c, [], hs', R2, .inl ⟨List.mem_cons_of_mem _ hg, rfl⟩, rfl, rfl, l2⟩
        · refine ⟨Hx ++ R2, R3, by rw [List.append_assoc]; exact List.Perm.append_left Hx p2, a, _, c, Hx, hs', R2, .inr ⟨?_, hs1, rfl⟩, rfl, rfl, l2⟩
          intro hm
          rcases List.mem_cons.1 hm with h | h
          · exact hk h
          · exact hg h

variable (S) (KK : Ky P t κ)
def MgO (gone : List κ) (xs : List (κ × List α)) (r : Nat) (H : Hp) : Prop :=
  ∃ hs H0 R, MapO KK hdv hs r H0 ∧ Lgr S gone xs hs R ∧ H = H0 ++ R
/-- the same, but that what stood at one key is elsewhere -/
def MgH (gone : List κ) (xs : List (κ × List α)) (x : κ) (r : Nat) (a : Option Addr) (m c : Nat) (H : Hp) : Prop :=
  ∃ hs H0 R, MapO KK hdv hs r H0 ∧ mval hs x = (a, m, c) ∧ H = H0 ++ R ∧
    (∀ ys a2 c2 Hy, S ys a2 c2 Hy → ∃ R2, R2.Perm (R ++ Hy) ∧ Lgr S gone (mset xs x ys) (mset hs x (a2, ys.length, c2)) R2) ∧
    (∀ ys Hy, ys.length = m → S ys a c Hy → ∃ R2 R3, (R ++ Hy).Perm (R2 ++ R3) ∧ Lgr S gone (mput xs x ys) hs R2) ∧
    (∃ R2 R3, R.Perm (R2 ++ R3) ∧ Lgr S (x :: gone) xs hs R2)
variable {S KK}
variable {n' : Nat} {F : Act → World → Prop} {env : Env} {HL : List Hp} {xs : List (κ × List α)} {r : Nat} {gone : List κ}
theorem mgo_nil {H : Hp} (h : MapO KK hdv ([] : List (κ × Hd)) r H) : MgO S KK [] ([] : List (κ × List α)) r H := ⟨[], H, [], h, ⟨rfl, rfl⟩, by simp⟩
theorem at_mgopen (h0 : S [] none 0 []) {H : Hp} {j : Nat} (x : κ) (hx : x ∉ gone) (hj : idx j HL = some H) (so : MgO S KK gone xs r H)
    (h : ∀ a c Hx H', S (mval xs x) a c Hx → MgH S KK gone xs x r a (mval xs x).length c H' → AtL W n' F env (HL.set j H' ++ [Hx])) : AtL W n' F env HL := by
  obtain ⟨hs, H0, R, h1, hl, rfl⟩ := so
  obtain ⟨a, c, Hx, R', q1, q2, q3, q4, q5, q6⟩ := lgr_take h0 xs hs R x hx hl
  refine at_heap (fun w o => ?_) (h a c Hx (H0 ++ R') q1 ⟨hs, H0, R', h1, q2, rfl, q4, q5, q6⟩)
  rw [idx_eq] at hj
  have hjl := (List.getElem?_eq_some_iff.1 hj).1
  refine o.perm ?_
  have e : HL.set j (H0 ++ R) = HL := set_self hj
  have h2 : HL.flatten.Perm (HL.set j ((H0 ++ R') ++ Hx)).flatten := by
    conv => lhs; rw [← e]
    refine flatten_perm_set ?_
    rw [List.append_assoc]
    exact List.Perm.append_left H0 q3
  exact h2.trans (perm_split hjl)
theorem in_mgh {H : Hp} {j m c : Nat} {x : κ} {a : Option Addr} (hj : idx j HL = some H) (so : MgH S KK gone xs x r a m c H) : ∃ hs, MapR KK hdv hs r HL.flatten ∧ mval hs x = ((a, m, c) : Hd) := by
  obtain ⟨hs, H0, R, h0, h1, rfl, _⟩ := so
  exact ⟨hs, h0.r.mono (fun y hy => mem_group (by rw [← idx_eq]; exact hj) (List.mem_append_left _ hy)), h1⟩
/-- the slice, turned in its place, is laid back -/
theorem at_mgshut {H Hx : Hp} {j q m c : Nat} {x : κ} {a : Option Addr} (ys : List α) (hj : idx j HL = some H) (so : MgH S KK gone xs x r a m c H) (hq : idx q HL = some Hx) (hne : Nat.beq j q = false) (hy : S ys a c Hx) (hl : ys.length = m)
    (h : ∀ H', MgO S KK gone (mput xs x ys) r H' → AtL W n' F env ((HL.set j H').set q [])) : AtL W n' F env HL := by
  obtain ⟨hs, H0, R, h1, h2, rfl, h4, h5, h6⟩ := so
  have hne' : j ≠ q := fun e => by subst e; simp at hne
  obtain ⟨R2, R3, p2, l2⟩ := h5 ys Hx hl hy
  refine at_heap (fun w o => ?_) (h (H0 ++ R2) ⟨hs, H0, R2, h1, l2, rfl⟩)
  rw [idx_eq] at hj hq
  have hjl := (List.getElem?_eq_some_iff.1 hj).1
  have hql := (List.getElem?_eq_some_iff.1 hq).1
  have o2 := o.perm (perm_join hj hq hne')
  have e : ∀ (A : Hp), ((HL.set j A).set q []) = ((HL.set q []).set j A) := fun A => List.set_comm _ _ hne'
  rw [e] at o2 ⊢
  have p3 : ((HL.set q []).set j (H0 ++ R ++ Hx)).flatten.Perm ((HL.set q []).set j ((H0 ++ R2) ++ R3)).flatten := flatten_perm_set (by
    rw [List.append_assoc, List.append_assoc]; exact List.Perm.append_left H0 p2)
  have p4 := perm_split (HL := HL.set q []) (j := j) (A := H0 ++ R2) (B := R3) (by simpa using hjl)
  have o3 := o2.perm (p3.trans p4)
  rw [List.flatten_append] at o3
  exact o3.left
theorem at_mgback [Inhabited α] {H Hx : Hp} {j q m c : Nat} {x : κ} {a : Option Addr} (hj : idx j HL = some H) (so : MgH S KK gone xs x r a m c H) (hq : idx q HL = some Hx) (hne : Nat.beq j q = false) (hy : S (mval xs x) a c Hx) (hl : (mval xs x).length = m)
    (h : ∀ H', MgO S KK gone xs r H' → AtL W n' F env ((HL.set j H').set q [])) : AtL W n' F env HL :=
  at_mgshut (mval xs x) hj so hq hne hy hl (fun H' so' => h H' (by rw [mput_self] at so'; exact so'))
/-- the slice went elsewhere -/
theorem at_mggone {H : Hp} {j m c : Nat} {x : κ} {a : Option Addr} (hj : idx j HL = some H) (so : MgH S KK gone xs x r a m c H)
    (h : ∀ H', MgO S KK (x :: gone) xs r H' → AtL W n' F env (HL.set j H')) : AtL W n' F env HL := by
  obtain ⟨hs, H0, R, h1, h2, rfl, h4, h5, R2, R3, p2, l2⟩ := so
  refine at_heap (fun w o => ?_) (h (H0 ++ R2) ⟨hs, H0, R2, h1, l2, rfl⟩)
  rw [idx_eq] at hj
  have hjl := (List.getElem?_eq_some_iff.1 hj).1
  have e : HL.set j (H0 ++ R) = HL := set_self hj
  have p3 : HL.flatten.Perm (HL.set j ((H0 ++ R2) ++ R3)).flatten := by
    conv => lhs; rw [← e]
    exact flatten_perm_set (by rw [List.append_assoc]; exact List.Perm.append_left H0 p2)
  have o3 := o.perm (p3.trans (perm_split hjl))
  rw [List.flatten_append] at o3
  exact o3.left
end
section rules
variable {κ α : Type} [DecidableEq κ] {t : TypeId} {S : List α → Option Addr → Nat → Hp → Prop}
variable {T : Ty P} {n : Nat} {Q : Exit → Act → World → Prop} {env : Env} {H : Hp} {HL : List Hp} {ops : Array Oper} {i : Nat} {K : Act → World → Prop} {o : Oper}
/-- a slice of one's own is laid at a key where one was taken out -/
theorem at_mgput (T : Ty P) {mt et : TypeId} (KK : Ky P t κ) {gone : List κ} {x ix y : Operand} {xs : List (κ × List α)} {r q m0 c0 : Nat} {kx : κ} {a0 : Option Addr} {ys : List α} {a : Option Addr} {c : Nat} {Hj Hq : Hp} (j : Nat)
    (hs : slot0 ops env i = some o) (hop : o.op = .mapUpdate mt x ix y) (hx : ev env x = some (.map (some r))) (hk : ev env ix = some (KK.enc kx)) (hy : ev env y = some (.slice a ys.length c))
    (hu : T.und mt = some (.map t et)) (hj : idx j HL = some Hj) (so : MgH S KK gone xs kx r a0 m0 c0 Hj) (hne : Nat.beq j q = false) (hq : idx q HL = some Hq) (sq : S ys a c Hq)
    (h : ∀ H', MgO S KK gone (mset xs kx ys) r H' → AtL W n K env ((HL.set j H').set q [])) : AtL W n (wpOp P ops Q i K) env HL := by
  obtain ⟨hs', H0, R, h0, _, rfl, h4, _, _⟩ := so
  have hne' : j ≠ q := fun e => by subst e; simp at hne
  obtain ⟨R2, p2, l2⟩ := h4 ys a c Hq sq
  have hj' := hj
  rw [idx_eq] at hj hq
  have hjl := (List.getElem?_eq_some_iff.1 hj).1
  have hql := (List.getElem?_eq_some_iff.1 hq).1
  refine at_split hj' ?_
  have hg : idx j (HL.set j H0 ++ [R]) = some H0 := by
    rw [idx_eq, List.getElem?_append_left (by simpa using hjl)]; exact List.getElem?_set_self hjl
  refine at_mu T KK hdv (v := ((a, ys.length, c) : Hd)) (k := kx) (g := j) hs hop hx hk hy hu hg h0 (fun H' so' => ?_)
  refine at_heap (fun w o => ?_) (h (H' ++ R2) ⟨_, H', R2, so', l2, rfl⟩)
  have e1 : (HL.set j H0 ++ [R]).set j H' = HL.set j H' ++ [R] := by
    rw [List.set_append_left _ _ (by simpa using hjl)]; simp
  rw [e1] at o
  have o2 := o.perm (perm_split hjl).symm
  have hq2 : (HL.set j (H' ++ R))[q]? = some Hq := by rw [List.getElem?_set_ne hne']; exact hq
  have hj2 : (HL.set j (H' ++ R))[j]? = some (H' ++ R) := List.getElem?_set_self hjl
  have o3 := o2.perm (perm_join hj2 hq2 hne')
  rw [List.set_set] at o3
  have e : ∀ (A : Hp), ((HL.set j A).set q []) = ((HL.set q []).set j A) := fun A => List.set_comm _ _ hne'
  rw [e] at o3 ⊢
  exact o3.perm (flatten_perm_set (by rw [List.append_assoc]; exact List.Perm.append_left H' p2.symm))
end rules
end

section
variable {W : World}
variable {P : Program}

/-! ### errors -/
/-- none; what a package's variable holds; a number of a type; whole numbers and another error behind a pointer -/
inductive Er where
  | nil : Er
  | glob : Nat → Er
  | num : Nat → Int → Er
  | wrap : Nat → List Int → Er → Er
instance : Inhabited Er := ⟨.nil⟩
def Er.isNil : Er → Bool
  | .nil => true
  | _ => false
/-- the package's variables that hold errors, each another one -/
def Glb (tE : TypeId) (gs : List Nat) (lits : List (Nat × Value)) (el : Nat → Addr) (F : Hp) : Prop :=
  (∀ g ∈ gs, ∃ T fr, (g, Obj.cells #[.iface tE (.pointer (some (el g)))] T fr) ∈ F) ∧ (∀ g ∈ gs, ∃ c T, ((el g).block, Obj.cells c T (0, 0)) ∈ F) ∧ (∀ a ∈ gs, ∀ b ∈ gs, el a = el b → a = b) ∧
    (∀ p ∈ lits, ∃ T fr, (p.1, Obj.cells #[p.2] T fr) ∈ F)
theorem Glb.mono {tE : TypeId} {gs : List Nat} {lits : List (Nat × Value)} {el : Nat → Addr} {F F' : Hp} (h : Glb tE gs lits el F) (hs : ∀ c ∈ F, c ∈ F') : Glb tE gs lits el F' := by
  obtain ⟨h1, h2, h3, h4⟩ := h
  exact ⟨fun g hg => let ⟨T, fr, hm⟩ := h1 g hg; ⟨T, fr, hs _ hm⟩, fun g hg => let ⟨c, T, hm⟩ := h2 g hg; ⟨c, T, hs _ hm⟩, h3, fun p hp => let ⟨T, fr, hm⟩ := h4 p hp; ⟨T, fr, hs _ hm⟩⟩
theorem glb_of {tE : TypeId} {gs : List Nat} {lits : List (Nat × Value)} {el : Nat → Addr} {F : Hp} {HL : List Hp} {j : Nat} (h : Glb tE gs lits el F) (hj : idx j HL = some F) : Glb tE gs lits el HL.flatten :=
  h.mono fun _ hc => mem_group (by rw [← idx_eq]; exact hj) hc
section
variable (tE : TypeId) (el : Nat → Addr)
def ErR : Er → Value → Hp → Prop
  | .nil, v, _ => v = .nilIface
  | .glob g, v, _ => v = .iface tE (.pointer (some (el g)))
  | .num t n, v, _ => v = .iface t (.int .i64 n)
  | .wrap t ns e, v, H => ∃ b vo T, v = .iface t (.pointer (some ⟨b, 0, none⟩)) ∧ (b, Obj.cells ((ns.map fun n => Value.int .i64 n) ++ [vo]).toArray T (0, 0)) ∈ H ∧ ErR e vo H
def ErO : Er → Value → Hp → Prop
  | .nil, v, H => v = .nilIface ∧ H = []
  | .glob g, v, H => v = .iface tE (.pointer (some (el g))) ∧ H = []
  | .num t n, v, H => v = .iface t (.int .i64 n) ∧ H = []
  | .wrap t ns e, v, H => ∃ b vo T Ho, v = .iface t (.pointer (some ⟨b, 0, none⟩)) ∧ H = (b, Obj.cells ((ns.map fun n => Value.int .i64 n) ++ [vo]).toArray T (0, 0)) :: Ho ∧ ErO e vo Ho
variable {tE el}
theorem ErR.mono : ∀ {e : Er} {v : Value} {H H' : Hp}, ErR tE el e v H → (∀ c ∈ H, c ∈ H') → ErR tE el e v H'
  | .nil, _, _, _, h, _ => h
  | .glob _, _, _, _, h, _ => h
  | .num _ _, _, _, _, h, _ => h
  | .wrap _ _ _, _, _, _, h, hs => by
    obtain ⟨b, vo, T, h1, h2, h3⟩ := h
    exact ⟨b, vo, T, h1, hs _ h2, ErR.mono h3 hs⟩
theorem ErO.r : ∀ {e : Er} {v : Value} {H : Hp}, ErO tE el e v H → ErR tE el e v H
  | .nil, _, _, h => h.1
  | .glob _, _, _, h => h.1
  | .num _ _, _, _, h => h.1
  | .wrap _ _ _, _, _, h => by
    obtain ⟨b, vo, T, Ho, h1, rfl, h3⟩ := h
    exact ⟨b, vo, T, h1, List.mem_cons_self .., ErR.mono (ErO.r h3) (fun c hc => List.mem_cons_of_mem _ hc)⟩
theorem ero_nil : ErO tE el .nil .nilIface [] := ⟨rfl, rfl⟩
theorem ero_glob {g : Nat} : ErO tE el (.glob g) (.iface tE (.pointer (some (el g)))) [] := ⟨rfl, rfl⟩
theorem ero_num {t : Nat} {n : Int} : ErO tE el (.num t n) (.iface t (.int .i64 n)) [] := ⟨rfl, rfl⟩
theorem ero_wrap {t b : Nat} {ns : List Int} {e : Er} {vo : Value} {T : TypeId} {Ho : Hp} (h : ErO tE el e vo Ho) :
    ErO tE el (.wrap t ns e) (.iface t (.pointer (some ⟨b, 0, none⟩))) (List.flatten [[(b, Obj.cells ((ns.map fun n => Value.int .i64 n) ++ [vo]).toArray T (0, 0))], Ho]) := ⟨b, vo, T, Ho, rfl, by simp, h⟩
theorem er0_nil {H : Hp} : ErR tE el .nil .nilIface H := rfl
theorem er0_glob {g : Nat} {H : Hp} : ErR tE el (.glob g) (.iface tE (.pointer (some (el g)))) H := rfl
theorem er0_num {t : Nat} {n : Int} {H : Hp} : ErR tE el (.num t n) (.iface t (.int .i64 n)) H := rfl
theorem err_of {e : Er} {v : Value} {H : Hp} {HL : List Hp} {j : Nat} (h : ErO tE el e v H) (hj : idx j HL = some H) : ErR tE el e v HL.flatten :=
  h.r.mono fun _ hc => mem_group (by rw [← idx_eq]; exact hj) hc
theorem errr_of {e : Er} {v : Value} {H : Hp} {HL : List Hp} {j : Nat} (h : ErR tE el e v H) (hj : idx j HL = some H) : ErR tE el e v HL.flatten :=
  h.mono fun _ hc => mem_group (by rw [← idx_eq]; exact hj) hc
theorem er_shape {e : Er} {v : Value} {H : Hp} (h : ErR tE el e v H) : (e.isNil = true ∧ v = .nilIface) ∨ (e.isNil = false ∧ ∃ t u, v = .iface t u) := by
  cases e with
  | nil => exact .inl ⟨rfl, h⟩
  | glob g => exact .inr ⟨rfl, _, _, h⟩
  | num t n => exact .inr ⟨rfl, _, _, h⟩
  | wrap t ns e =>
    obtain ⟨b, vo, T, h1, _⟩ := h
    exact .inr ⟨rfl, _, _, h1⟩

section
variable {n : Nat} {env : Env} {H : Hp} {o : Oper}
theorem run_eq_nil {T : Ty P} {ti : TypeId} {ms : Array (String × TypeId)} (hu : T.und ti = some (.interface ms)) {e : Er} {v : Value} (h : ErR tE el e v H) (w : World) :
    (Op.equal ti v .nilIface).run P w = .ok e.isNil w := by
  show (Op.equalIn (9999 + 1) ti _ _).run P w = _
  generalize 9999 = d
  rcases er_shape h with ⟨h1, rfl⟩ | ⟨h1, t, u, rfl⟩
  · simp only [Op.equalIn, Sem.run_bind, run_und hu, Result.andThen_ok, Sem.run_pure, h1]
  · simp only [Op.equalIn, Sem.run_bind, run_und hu, Result.andThen_ok, Sem.run_pure, h1]
theorem guard_nil {t : TypeId} {op : BinOp} {x : Operand} {v : Value} (w : World) : (eqGuard op t x (.const .nilIface) v .nilIface).run P w = .ok () w := by
  unfold eqGuard
  rw [Sem.run_ite]
  refine ite_both (fun _ => rfl) (fun _ => ?_)
  cases v <;> simp
theorem binOp_eq {t : TypeId} {v : Value} (hv : v = .nilIface ∨ ∃ a b, v = .iface a b) : binOp .eql t v .nilIface = (do pure (.bool (← Op.equal t v .nilIface))) ∧ binOp .neq t v .nilIface = (do pure (.bool !(← Op.equal t v .nilIface))) := by
  rcases hv with rfl | ⟨a, b, rfl⟩ <;> exact ⟨rfl, rfl⟩
theorem g_ernil (T : Ty P) {t yt : TypeId} {x : Operand} {ms : Array (String × TypeId)} {e : Er} {v : Value} (hop : o.op = .binOp .eql t x (.const .nilIface) yt) (hx : ev env x = some v)
    (hu : T.und t = some (.interface ms)) (h : ErR tE el e v H) : Gives W P n env H o (.bool e.isNil) := by
  intro t' w s ow
  unfold execOp
  have hv : v = .nilIface ∨ ∃ a b, v = .iface a b := by
    rcases er_shape h with ⟨_, h1⟩ | ⟨_, a, b, h1⟩
    · exact .inl h1
    · exact .inr ⟨a, b, h1⟩
  simp only [hop, ev_eval s hx, ev_eval (x := .const .nilIface) s rfl]
  rw [(binOp_eq hv).1]
  simp only [Sem.run_bind, guard_nil, Result.andThen_ok, run_eq_nil hu h, Sem.run_pure]
theorem g_ernilN (T : Ty P) {t yt : TypeId} {x : Operand} {ms : Array (String × TypeId)} {e : Er} {v : Value} (hop : o.op = .binOp .neq t x (.const .nilIface) yt) (hx : ev env x = some v)
    (hu : T.und t = some (.interface ms)) (h : ErR tE el e v H) : Gives W P n env H o (.bool (!e.isNil)) := by
  intro t' w s ow
  unfold execOp
  have hv : v = .nilIface ∨ ∃ a b, v = .iface a b := by
    rcases er_shape h with ⟨_, h1⟩ | ⟨_, a, b, h1⟩
    · exact .inl h1
    · exact .inr ⟨a, b, h1⟩
  simp only [hop, ev_eval s hx, ev_eval (x := .const .nilIface) s rfl]
  rw [(binOp_eq hv).2]
  simp only [Sem.run_bind, guard_nil, Result.andThen_ok, run_eq_nil hu h, Sem.run_pure]
def noIface : TypeDesc → Bool
  | .interface _ => false
  | _ => true
/-- a value as an interface -/
theorem g_mkif (T : Ty P) {t : TypeId} {x : Operand} {v : Value} {d : TypeDesc} (hop : o.op = .makeInterface t x) (hx : ev env x = some v) (hu : T.und t = some d) (hd : noIface d = true) : Gives W P n env H o (.iface t v) := by
  intro t' w s ow
  unfold execOp
  have : (Instr.makeInterface t v).run P w = .ok (.iface t v) w := by
    unfold Instr.makeInterface
    simp only [Sem.run_bind, run_und hu, Result.andThen_ok]
    cases d <;> first | rfl | cases hd
  simp only [hop, ev_eval s hx, Sem.run_bind, this, Result.andThen_ok]
  rfl
end
theorem in_glb {F : Hp} {HL : List Hp} {gs : List Nat} {lits : List (Nat × Value)} {j : Nat} (hj : idx j HL = some F) (hG : Glb tE gs lits el F) {g : Nat} (hg : g ∈ gs) :
    ∃ arr E fr, (g, Obj.cells arr E fr) ∈ HL.flatten ∧ arr[0]? = some (Value.iface tE (.pointer (some (el g)))) := by
  obtain ⟨T, fr, hm⟩ := hG.1 g hg
  exact ⟨_, T, fr, mem_group (by rw [← idx_eq]; exact hj) hm, rfl⟩
end

/-! ### what errors.As tells, for the shapes that occur -/
/-- a number of that type -/
def Er.asN (t : Nat) : Er → Option (Option Int)
  | .nil => some none
  | .num u n => if u = t then some (some n) else none
  | .wrap _ _ (.num u n) => if u = t then some (some n) else none
  | _ => none
/-- a pointer of that type: what stands there -/
def Er.asP (t : Nat) : Er → Option (Option (Int × Int × Er))
  | .nil => some none
  | .wrap u [a, b] e => if u = t then some (some (a, b, e)) else none
  | _ => none
theorem asP_none {tE : TypeId} {el : Nat → Addr} {t : Nat} {e : Er} {v : Value} {H : Hp} (h : e.asP t = some none) (so : ErO tE el e v H) : v = .nilIface ∧ H = [] := by
  unfold Er.asP at h
  split at h
  · exact so
  · split at h <;> cases h
  · cases h
theorem asP_some {tE : TypeId} {el : Nat → Addr} {t : Nat} {e of : Er} {v : Value} {H : Hp} {a b : Int} (h : e.asP t = some (some (a, b, of))) (so : ErO tE el e v H) :
    ∃ q vo T Ho, v = .iface t (.pointer (some ⟨q, 0, none⟩)) ∧ H = [(q, Obj.cells #[.int .i64 a, .int .i64 b, vo] T (0, 0))] ++ Ho ∧ ErO tE el of vo Ho := by
  unfold Er.asP at h
  split at h
  · cases h
  · split at h
    · rename_i u x y e' hu
      subst hu
      simp only [Option.some.injEq, Prod.mk.injEq] at h
      obtain ⟨rfl, rfl, rfl⟩ := h
      obtain ⟨q, vo, T, Ho, h1, h2, h3⟩ := so
      exact ⟨q, vo, T, Ho, h1, by rw [h2]; rfl, h3⟩
    · cases h
  · cases h

/-! ### slices that are parts of another one -/
section
variable {α : Type} (k : Fl α)
def Bor (xs : List α) (a : Option Addr) (n : Nat) (l : List α) (a' : Option Addr) (n' : Nat) : Prop :=
  l = [] ∨ ∃ lo hi : Int, (0 ≤ lo ∧ lo ≤ hi ∧ hi ≤ (xs.length : Int)) ∧ l = sub' xs lo hi ∧ a' = subA a n lo.toNat k.size ∧ n' = n - lo.toNat
variable {k}
theorem Bor.nil {xs : List α} {a a' : Option Addr} {n n' : Nat} : Bor k xs a n [] a' n' := .inl rfl
theorem addr_add0 (a : Addr) : a.add 0 = a := by unfold Addr.add; simp
theorem Bor.self {xs : List α} {a : Option Addr} {n : Nat} : Bor k xs a n xs a n := by
  refine .inr ⟨0, xs.length, by omega, by simp [sub'], ?_, by simp⟩
  unfold subA
  cases a <;> simp [addr_add0]
theorem Bor.r {xs l : List α} {a a' : Option Addr} {n n' : Nat} {H : Hp} (h : Bor k xs a n l a' n') (sr : SliceR k xs a H) (hc : xs.length ≤ n) : SliceR k l a' H := by
  rcases h with rfl | ⟨lo, hi, h1, rfl, rfl, _⟩
  · exact .inl rfl
  · exact sub_r sr h1 hc
theorem Bor.cap {xs l : List α} {a a' : Option Addr} {n n' : Nat} (h : Bor k xs a n l a' n') (hc : xs.length ≤ n) : l = [] ∨ l.length ≤ n' := by
  rcases h with rfl | ⟨lo, hi, h1, rfl, _, rfl⟩
  · exact .inl rfl
  · exact .inr (sub_cap h1 hc)
theorem sub_sub {xs : List α} {lo hi lo2 hi2 : Int} (h1 : 0 ≤ lo ∧ lo ≤ hi ∧ hi ≤ (xs.length : Int)) (h2 : 0 ≤ lo2 ∧ lo2 ≤ hi2 ∧ hi2 ≤ ((sub' xs lo hi).length : Int)) :
    sub' (sub' xs lo hi) lo2 hi2 = sub' xs (lo + lo2) (lo + hi2) := by
  have hl := sub_length h1
  unfold sub' at hl ⊢
  rw [List.drop_take, List.take_take, List.drop_drop]
  have e1 : lo.toNat + lo2.toNat = (lo + lo2).toNat := by omega
  have e2 : min (hi2.toNat - lo2.toNat) (hi.toNat - lo.toNat - lo2.toNat) = (lo + hi2).toNat - (lo + lo2).toNat := by
    rw [sub_length h1] at h2
    omega
  rw [e1, e2]
theorem Bor.sub {xs l : List α} {a a' : Option Addr} {n n' : Nat} {lo hi : Int} (h : Bor k xs a n l a' n') (hc : xs.length ≤ n) (h2 : 0 ≤ lo ∧ lo ≤ hi ∧ hi ≤ (l.length : Int)) :
    Bor k xs a n (sub' l lo hi) (subA a' n' lo.toNat k.size) (n' - lo.toNat) := by
  rcases h with rfl | ⟨lo1, hi1, h1, rfl, rfl, rfl⟩
  · exact .inl (by simp [sub'])
  · by_cases he : lo = hi
    · left; subst he; simp [sub']
    · right
      have hl := sub_length h1
      refine ⟨lo1 + lo, lo1 + hi, by omega, sub_sub h1 h2, ?_, by omega⟩
      unfold subA
      have n1 : ¬ n = lo1.toNat := by omega
      have n2 : ¬ n - lo1.toNat = lo.toNat := by omega
      have n3 : ¬ n = (lo1 + lo).toNat := by omega
      rw [if_neg n1, if_neg n2, if_neg n3]
      cases a with
      | none => rfl
      | some x =>
        simp only [Option.map_some, Option.some.injEq]
        have : (lo1 + lo).toNat = lo1.toNat + lo.toNat := by omega
        rw [this, Nat.add_mul]
        unfold Addr.add
        by_cases z1 : lo1.toNat * k.size = 0
        · simp [z1]
        · by_cases z2 : lo.toNat * k.size = 0
          · simp [z1, z2]
          · have : ¬ (lo1.toNat * k.size + lo.toNat * k.size = 0) := by omega
            simp only [z1, z2, this, if_false]
            congr 1
            omega
theorem bor_of {HL : List Hp} {xs l : List α} {a a' : Option Addr} {n n' : Nat} (h : Bor k xs a n l a' n') (sr : SliceR k xs a HL.flatten) (hc : xs.length ≤ n) : SliceR k l a' HL.flatten := h.r sr hc
variable (k)
/-- a part of another one, or one's own -/
def BoO (E : TypeId) (xs : List α) (a : Option Addr) (n : Nat) (l : List α) (a' : Option Addr) (n' : Nat) (H : Hp) : Prop :=
  (Bor k xs a n l a' n' ∧ l.length ≤ n' ∧ H = []) ∨ SliceO k E l a' n' H
variable {k}
theorem boo_of {E : TypeId} {HL : List Hp} {xs l : List α} {a a' : Option Addr} {n n' j : Nat} {H : Hp} (h : BoO k E xs a n l a' n' H) (hj : idx j HL = some H) (sr : SliceR k xs a HL.flatten) (hc : xs.length ≤ n) : SliceR k l a' HL.flatten := by
  rcases h with ⟨h, _, _⟩ | h
  · exact h.r sr hc
  · exact own_of h hj
theorem BoO.cap_le {E : TypeId} {xs l : List α} {a a' : Option Addr} {n n' : Nat} {H : Hp} (h : BoO k E xs a n l a' n' H) : l.length ≤ n' := by
  rcases h with ⟨_, h, _⟩ | h
  · exact h
  · exact h.cap_le
end

/-! ### whatever bytes -/
section
open Classical
noncomputable def anyL {α β : Type} (p : α → Prop) (f : α → Option β) : Option β := if h : ∃ r, ∀ x, p x → f x = some r then some (Classical.choose h) else none
theorem anyL_e {α β : Type} {p : α → Prop} {f : α → Option β} {r : β} {x : α} (h : anyL p f = some r) (hx : p x) : f x = some r := by
  unfold anyL at h
  split at h
  · rename_i hh
    have := Classical.choose_spec hh x hx
    rw [Option.some.inj h] at this
    exact this
  · cases h
theorem anyL_i {α β : Type} {p : α → Prop} {f : α → Option β} {r : β} {x : α} (hx : p x) (h : ∀ x, p x → f x = some r) : anyL p f = some r := by
  unfold anyL
  have hh : ∃ r, ∀ x, p x → f x = some r := ⟨r, h⟩
  rw [dif_pos hh]
  have := Classical.choose_spec hh x hx
  rw [h x hx] at this
  exact this.symm
end
def nzP (n : Int) (xs : List Int) : Prop := xs.length = n.toNat ∧ ∀ x ∈ xs, inU8 x
theorem nzP_some (n : Int) : nzP n (List.replicate n.toNat 0) := ⟨by simp, fun x hx => by rw [List.mem_replicate] at hx; rw [hx.2]; exact ⟨by omega, by omega⟩⟩
def nzds : Nat → Nat → List Int
  | 0, _ => []
  | n + 1, t => Int.ofNat (t % 256) :: nzds n (t / 256)
theorem nzds_len : ∀ n t, (nzds n t).length = n
  | 0, _ => rfl
  | n + 1, t => by simp [nzds, nzds_len n]
theorem nzds_in : ∀ n t, ∀ x ∈ nzds n t, inU8 x
  | 0, _, x, h => by simp [nzds] at h
  | n + 1, t, x, h => by
    simp only [nzds, List.mem_cons] at h
    rcases h with rfl | h
    · have := Nat.mod_lt t (show 256 > 0 by omega)
      refine ⟨Int.natCast_nonneg _, ?_⟩
      show ((t % 256 : Nat) : Int) ≤ 255
      omega
    · exact nzds_in n _ x h
theorem digits_list : ∀ (n t : Nat) (acc : Array Value), (Extern.BytealgMakeNoZero.digits n t acc).toList = acc.toList ++ (nzds n t).map fun x => Value.int .u8 x
  | 0, _, acc => by simp [Extern.BytealgMakeNoZero.digits, nzds]
  | n + 1, t, acc => by
    rw [Extern.BytealgMakeNoZero.digits, digits_list n]
    simp [nzds]
/-- the library's function that makes such a slice -/
structure IsNZ (P : Program) (f : FuncId) (t : TypeId) : Prop where
  h : ∃ ps, ∀ (args : Array Value) (w : World), (callFunc f args).run P w = ((Extern.BytealgMakeNoZero.makeNoZero ps #[t] args).run P w).andThen fun v w' => .ok (.value v) w'
section
variable {n : Nat} {Q : Exit → Act → World → Prop} {env : Env} {HL : List Hp} {ops : Array Oper} {i : Nat} {K : Act → World → Prop} {o : Oper}
theorem at_mknz (T : Ty P) {d t E : Nat} {c x : Operand} {types : Array TypeId} {f : FuncId} {m : Int}
    (hs : slot n ops env i = some (o, d)) (hop : o.op = .call ⟨.value c, #[x], types⟩) (hc : ev env c = some (.func (.func f) #[] #[])) (hx : ev env x = some (.int .i64 m)) (hf : IsNZ P f t) (ht : T.und t = some (.slice E)) (h0 : 0 ≤ m ∧ m ≤ 1099511627776)
    (h : ∀ xs a cap H', nzP m xs → SliceO (Fl.int .u8) E xs a cap H' → AtL W n K ((d, .slice a xs.length cap) :: env) (HL ++ [H'])) : AtL W n (wpOp P ops Q i K) env HL := by
  obtain ⟨ho, hw, hd, hn⟩ := slot_spec hs
  refine at_val_w (β := { p : List Int × Option Addr × Nat × Hp // nzP m p.1 ∧ SliceO (Fl.int .u8) E p.1 p.2.1 p.2.2.1 p.2.2.2 }) (V := fun p => .slice p.1.2.1 p.1.1.length p.1.2.2.1) (G := fun p => (HL ++ [p.1.2.2.2]).flatten)
    ho hw hd hn (fun t' w s ow => ?_) (fun p => h _ _ _ _ p.2.1 p.2.2)
  obtain ⟨ps, hps⟩ := hf.h
  let cap := grownCap w m.toNat 0 E
  let by' := (Question.extern "internal/bytealg.MakeNoZero.bytes" 0).cut (w.tape (w.drawn + 1) (.extern "internal/bytealg.MakeNoZero.bytes" 0))
  let ds := nzds cap by'
  have hcap : m.toNat ≤ cap := grownCap_ge w m.toNat 0 E
  have hdl : ds.length = cap := nzds_len _ _
  have hcells : (Extern.BytealgMakeNoZero.digits cap by' #[]) = (row (Fl.int .u8) ds).toArray := by
    apply Array.ext'
    rw [digits_list, row_u8]
    simp [ds]
  have hrun : (Extern.BytealgMakeNoZero.makeNoZero ps #[t] #[.int .i64 m]).run P w = .ok (.slice (some ⟨w.heap.size, 0, none⟩) m.toNat cap) (w.drew.drew.alloc (.cells (row (Fl.int .u8) ds).toArray E)) := by
    have hdef : Extern.BytealgMakeNoZero.makeNoZero ps #[t] #[.int .i64 m] =
        (do
          let .slice elem ← underlying t | stuck "bytealg.MakeNoZero: slice type expected"
          if m < 0 || m > 2 ^ 48 then runtimePanic (.error "makeslice: len out of range")
          let cap ← choose (.appendCap m.toNat 0 elem)
          askRoom cap
          let bytes ← choose (.extern "internal/bytealg.MakeNoZero.bytes" 0)
          let a ← newRow elem (Extern.BytealgMakeNoZero.digits cap bytes #[])
          pure (.slice (some a) m.toNat cap)) := rfl
    rw [hdef]
    have h1 : ¬ m < 0 := by omega
    have h2 : ¬ (281474976710656 : Int) < m := by omega
    rw [← hcells]
    simp [run_und ht, h1, h2, Question.forced, newRow, Lib.size_digits, grownCap, cap, by']
  refine ⟨⟨(ds.take m.toNat, some ⟨w.heap.size, 0, none⟩, cap, [(w.heap.size, .cells (row (Fl.int .u8) ds).toArray E)]), ⟨by simp; omega, fun x hx => nzds_in _ _ x (List.mem_of_mem_take hx)⟩, .inr ⟨w.heap.size, [], row (Fl.int .u8) (ds.drop m.toNat), rfl, ?_, by simp; omega, ?_⟩⟩, w.drew.drew.alloc (.cells (row (Fl.int .u8) ds).toArray E), ?_, ?_⟩
  · rw [List.nil_append, ← row_append, List.take_append_drop]
  · rw [row_length, List.length_drop, List.length_take]
    show (cap - min m.toNat ds.length) * _ ≤ (ds.length - m.toNat) * _
    exact Nat.mul_le_mul_right _ (by omega)
  · have hl : (ds.take m.toNat).length = m.toNat := by simp; omega
    unfold execOp
    simp only [hop, resolve, ev_eval s hc, ev_eval s hx, Deferred.ofValue, Sem.run_bind, Sem.run_pure, Result.andThen_ok, invoke, List.map_toArray, List.map_cons, List.map_nil]
    rw [show (#[] : Array Value) ++ #[Value.int .i64 m] ++ #[] = #[Value.int .i64 m] from rfl, hps, hrun]
    simp only [Result.andThen_ok, hl]
  · exact own_group_new _ (show Own W w.drew.drew HL.flatten from ow.drew.drew)
end

/-! ### a slice whose room is cut -/
theorem SliceO.trim {α : Type} {k : Fl α} {E : TypeId} {xs : List α} {a : Option Addr} {cap c : Nat} {H : Hp} (so : SliceO k E xs a cap H) (h1 : xs.length ≤ c) (h2 : c ≤ cap) : SliceO k E xs a c H := by
  rcases so with ⟨h3, h4, h5, h6⟩ | ⟨b, pre, post, h3, h4, h5, h6⟩
  · exact .inl ⟨h3, h4, by omega, h6⟩
  · refine .inr ⟨b, pre, post, h3, h4, h1, Nat.le_trans (Nat.mul_le_mul_right _ (by omega)) h6⟩
section
variable {n : Nat} {env : Env} {o : Oper}
theorem g_sub3 {α : Type} (T : Ty P) {H : Hp} {t E sz by' cap : Nat} {z : Value} {x hi mx : Operand} {a : Option Addr} {xs : List α} {h : Int} {kk kk' : IntKind} (hop : o.op = .slice t x none (some hi) (some mx)) (hx : ev env x = some (.slice a xs.length cap))
    (hu : T.und t = some (.slice E)) (hi' : T.inf E = some (sz, by', z)) (hhi : ev env hi = some (.int kk h)) (hmx : ev env mx = some (.int kk' h)) (hb : h = (xs.length : Int)) (hc : xs.length ≤ cap) :
    Gives W P n env H o (.slice a xs.length xs.length) := by
  subst hb
  intro t' w s ow
  have hx0 : xs.length - 0 = xs.length := by omega
  have e1 : (Instr.sliceBounds true xs.length cap none (some (Act.eval ⟨t', []⟩ hi)) (some (Act.eval ⟨t', []⟩ mx))).run P w = .ok (0, xs.length, xs.length) w := by
    unfold Instr.sliceBounds
    simp only [ev_eval s hhi, ev_eval s hmx, Sem.run_bind, run_sliceBound (kk := kk') (by omega) (show ((xs.length : Int)) ≤ (cap : Int) by omega), run_sliceBound (kk := kk) (by omega) (show ((xs.length : Int)) ≤ ((Int.toNat (xs.length : Int) : Nat) : Int) by omega), Result.andThen_ok, Sem.run_pure]
    simp
  have e2 : (Instr.slice t (.slice a xs.length cap) none (some (Act.eval ⟨t', []⟩ hi)) (some (Act.eval ⟨t', []⟩ mx))).run P w = .ok (.slice a xs.length xs.length) w := by
    unfold Instr.slice
    simp only [Sem.run_bind, run_und hu, Result.andThen_ok]
    simp only [Sem.run_bind, e1, Result.andThen_ok, run_size hi', Sem.run_pure]
    congr 2
    cases a with
    | none => simp
    | some a => simp [addr_add0]
  unfold execOp
  simp only [hop, ev_eval s hx, Option.map_none, Option.map_some]
  unfold Instr.sliceAt
  simp only [Sem.run_bind, run_und hu, Result.andThen_ok]
  rw [e2]; rfl
end

/-! ### a struct with an error in it -/
theorem er_cells {tE : TypeId} {el : Nat → Addr} {e : Er} {v : Value} {H : Hp} (h : ErR tE el e v H) : cellsL v = [v] := by
  rcases er_shape h with ⟨_, rfl⟩ | ⟨_, t, u, rfl⟩ <;> rfl
theorem ero_cells {tE : TypeId} {el : Nat → Addr} {e : Er} {v : Value} {H : Hp} (h : ErO tE el e v H) : cellsL v = [v] := er_cells h.r
def fillW (place : Nat → Option (Nat × Nat)) (cells : List Value) : List (Nat × List Value) → Option (List Value)
  | [] => some cells
  | (i, v) :: rest =>
    match place i with
    | none => none
    | some (off, size) =>
      bif Nat.beq v.length size && Nat.ble (off + v.length) cells.length then fillW place (splice cells off v) rest else none
theorem fillW_eq (place : Nat → Option (Nat × Nat)) : ∀ (vs : List (Nat × Value)) (cells : List Value), fillL place cells vs = fillW place cells (vs.map fun p => (p.1, cellsL p.2))
  | [], _ => rfl
  | (i, v) :: rest, cells => by
    simp only [fillL, List.map_cons, fillW]
    cases place i with
    | none => rfl
    | some os => simp only [fillW_eq place rest]
section
variable {n : Nat} {env : Env} {H : Hp} {o : Oper}
theorem g_ebuild (T : Ty P) {t sz by' : Nat} {z : Value} {fs : Array Field} {parts : Array (Nat × Operand)} {pl : List (Nat × Nat)} {vs : List (Nat × Value)} {cs : List Value} (ws : List (Nat × List Value)) (hop : o.op = .build t parts)
    (hu : T.und t = some (.struct fs)) (hi : T.inf t = some (sz, by', z)) (hpl : placesL T fs.toList = some pl) (hvs : (parts.toList.mapM fun p => (ev env p.2).map fun v => (p.1, v)) = some vs)
    (hws : (vs.map fun p => (p.1, cellsL p.2)) = ws) (hf : fillW (fun i => idx i pl) (cellsL z) ws = some cs) : Gives W P n env H o (.agg cs.toArray) := by
  intro t' w s ow
  refine pureVal_run (T := T) s ?_ w
  unfold pureVal
  rw [hop]
  simp only [hu, hi, hpl, hvs, fillW_eq, hws, hf]
end
end

section
variable {W : World}
variable {P : Program}

/-! ### slices whose elements hold what stands elsewhere -/
section
variable {α : Type} [Inhabited α] (kd : Kd α)
/-- a slice's own cells; what its elements hold is besides, or in another heap -/
def SliceB (E : TypeId) (xs : List α) (a : Option Addr) (cap : Nat) (H Hl : Hp) : Prop :=
  ∃ cc H0 R, SliceO (Fl.raw kd.size kd.pos) E cc a cap H0 ∧ cc.length = xs.length ∧ H = H0 ++ R ∧ ∀ i : Nat, i < xs.length → kd.rdr (rd xs (i : Int)) (rd cc (i : Int)).val (R ++ Hl)
def SliceBH (E : TypeId) (xs : List α) (a : Option Addr) (cap : Nat) (i : Int) (cs : List Value) (H Hl : Hp) : Prop :=
  (0 ≤ i ∧ i < (xs.length : Int)) ∧ ∃ cc H0 R, SliceO (Fl.raw kd.size kd.pos) E cc a cap H0 ∧ cc.length = xs.length ∧ (rd cc i).val = cs ∧ H = H0 ++ R ∧
    ∀ j : Nat, j < xs.length → (j : Int) ≠ i → kd.rdr (rd xs (j : Int)) (rd cc (j : Int)).val (R ++ Hl)
variable {kd} {E : TypeId}
theorem SliceB.cap_le {xs : List α} {a : Option Addr} {cap : Nat} {H Hl : Hp} (h : SliceB kd E xs a cap H Hl) : xs.length ≤ cap := by
  obtain ⟨cc, H0, R, h0, hl, _⟩ := h
  rw [← hl]; exact h0.cap_le
theorem SliceB.addr {xs : List α} {a : Option Addr} {cap : Nat} {H Hl : Hp} (h : SliceB kd E xs a cap H Hl) {i : Int} (h0 : 0 ≤ i) (h1 : i < xs.length) : ∃ b off, a = some ⟨b, off, none⟩ := by
  obtain ⟨cc, H0, R, h2, h3, _⟩ := h
  exact h2.r.addr h0 (by rw [h3]; exact h1)
theorem SliceB.pre {xs : List α} {a : Option Addr} {cap : Nat} {H Hl : Hp} {hi : Int} (so : SliceB kd E xs a cap H Hl) (h : 0 ≤ (0 : Int) ∧ 0 ≤ hi ∧ hi ≤ (xs.length : Int)) :
    SliceB kd E (sub' xs 0 hi) (subA a cap (Int.toNat 0) kd.size) (cap - Int.toNat 0) H Hl := by
  obtain ⟨cc, H0, R, h0, hl, rfl, hr⟩ := so
  have hx : ∀ {β : Type} [Inhabited β] (l : List β) (i : Nat), (i : Int) < hi → rd (sub' l 0 hi) (i : Int) = rd l (i : Int) := fun l i hi' => by
    unfold rd sub'
    simp only [Int.toNat_zero, List.drop_zero, Nat.sub_zero]
    rw [List.getD_eq_getElem?_getD, List.getD_eq_getElem?_getD, List.getElem?_take_of_lt (by omega)]
  have hlen : (sub' xs 0 hi).length = hi.toNat := by rw [sub_length h]; omega
  refine ⟨sub' cc 0 hi, H0, R, h0.pre (by rw [hl]; exact h), ?_, rfl, fun i hi' => ?_⟩
  · rw [sub_length (by rw [hl]; exact h), sub_length h]
  · rw [hlen] at hi'
    rw [hx xs i (by omega), hx cc i (by omega)]
    exact hr i (by omega)
/-- it may be read where both heaps stand -/
theorem sb_of {HL : List Hp} {j q cap : Nat} {Hj Hq : Hp} {xs : List α} {a : Option Addr} (h : SliceB kd E xs a cap Hj Hq) (hj : idx j HL = some Hj) (hq : idx q HL = some Hq) : SliceDR kd xs a HL.flatten := by
  obtain ⟨cc, H0, R, h0, hl, rfl, hr⟩ := h
  rw [idx_eq] at hj hq
  refine ⟨cc, h0.r.mono (fun c hc => mem_group hj (List.mem_append_left _ hc)), hl, fun i hi => kd.mono _ _ _ _ (hr i hi) (fun c hc => ?_)⟩
  rcases List.mem_append.1 hc with hc | hc
  · exact mem_group hj (List.mem_append_right _ hc)
  · exact mem_group hq hc
theorem SliceBH.cells {xs : List α} {a : Option Addr} {cap : Nat} {i : Int} {cs : List Value} {H Hl : Hp} (h : SliceBH kd E xs a cap i cs H Hl) : CellsAt a (i.toNat * kd.size) cs H := by
  obtain ⟨hi, cc, H0, R, h0, hl, rfl, rfl, _⟩ := h
  obtain ⟨b, off, ha⟩ := h0.r.addr hi.1 (by rw [hl]; exact hi.2)
  obtain ⟨arr, E', fr, hm, hc⟩ := h0.r.elem ha hi.1 (by rw [hl]; exact hi.2)
  exact ⟨b, off, arr, E', fr, ha, List.mem_append_left _ hm, fun f v hv => hc f v hv⟩
theorem SliceBH.addr {xs : List α} {a : Option Addr} {cap : Nat} {i : Int} {cs : List Value} {H Hl : Hp} (h : SliceBH kd E xs a cap i cs H Hl) : ∃ b off, a = some ⟨b, off, none⟩ := by
  obtain ⟨b, off, _, _, _, ha, _⟩ := h.cells
  exact ⟨b, off, ha⟩
theorem SliceBH.cap_le {xs : List α} {a : Option Addr} {cap : Nat} {i : Int} {cs : List Value} {H Hl : Hp} (h : SliceBH kd E xs a cap i cs H Hl) : xs.length ≤ cap := by
  obtain ⟨hi, cc, H0, R, h0, hl, rfl, rfl, _⟩ := h
  rw [← hl]; exact h0.cap_le
section
variable {n' : Nat} {F : Act → World → Prop} {env : Env} {HL : List Hp} {xs : List α} {a : Option Addr} {cap : Nat}
/-- the element that was stored, with what it holds -/
theorem at_sbclose {H Hx Hl : Hp} {j q : Nat} {i : Int} {cs : List Value} (x' : α) (hj : idx j HL = some H) (so : SliceBH kd E xs a cap i cs H Hl) (hq : idx q HL = some Hx) (hne : Nat.beq j q = false) (hx : kd.rdr x' cs Hx)
    (h : ∀ H', SliceB kd E (xs.set i.toNat x') a cap H' Hl → AtL W n' F env ((HL.set j H').set q [])) : AtL W n' F env HL := by
  obtain ⟨hi, cc, H0, R, h0, hl, h2, rfl, h3⟩ := so
  have hne' : j ≠ q := fun e => by subst e; simp at hne
  refine at_heap (fun w o => ?_) (h ((H0 ++ R) ++ Hx) ⟨cc, H0, R ++ Hx, h0, by simpa using hl, by rw [List.append_assoc], fun k hk => ?_⟩)
  · rw [idx_eq] at hj hq
    exact o.perm (perm_join hj hq hne')
  · have hk' : k < xs.length := by simpa using hk
    by_cases hki : (k : Int) = i
    · have e1 : rd (xs.set i.toNat x') (k : Int) = x' := by
        rw [hki, rd_eq (by simp; omega)]; simp
      rw [e1, hki, h2]
      exact kd.mono _ _ _ _ hx (fun c hc => List.mem_append_left _ (List.mem_append_right _ hc))
    · have e1 : rd (xs.set i.toNat x') (k : Int) = rd xs (k : Int) := by
        unfold rd
        rw [List.getD_eq_getElem?_getD, List.getD_eq_getElem?_getD, List.getElem?_set_ne (by omega)]
      rw [e1]
      refine kd.mono _ _ _ _ (h3 k hk' hki) (fun c hc => ?_)
      rcases List.mem_append.1 hc with hc | hc
      · exact List.mem_append_left _ (List.mem_append_left _ hc)
      · exact List.mem_append_right _ hc
end
section rules
variable {n : Nat} {Q : Exit → Act → World → Prop} {env : Env} {HL : List Hp} {ops : Array Oper} {i : Nat} {K : Act → World → Prop} {o : Oper}
/-- a slice of none -/
theorem at_dbs0 (T : Ty P) {d t sz by' : Nat} {z : Value}
    (hsl : slot n ops env i = some (o, d)) (hop : o.op = .buildSlice t 0 #[]) (hu : T.und t = some (.slice E)) (hi : T.inf E = some (sz, by', z)) (hz : (cellsL z).length = sz)
    (h : ∀ a H', SliceD kd E ([] : List α) a 0 H' → AtL W n K ((d, .slice a 0 0) :: env) (HL ++ [H'])) : AtL W n (wpOp P ops Q i K) env HL := by
  refine at_bs (k := Fl.raw kd.size kd.pos) T ([] : List (Rw kd.size)) hsl hop hu hi hz ?_ rfl ?_ rfl (fun a H' so => h a H' ⟨[], H', [], so, ⟨rfl, rfl⟩, by simp⟩)
  · simp
  · simp [fillL, row]
/-- another slice's elements copied: what they hold stays where it is -/
theorem at_sbap (T : Ty P) {d g q : Nat} {s x : Operand} {t t' E' : TypeId} {ys : List α} {a a2 : Option Addr} {cap cap2 sz by' : Nat} {z : Value} {Hj Hq : Hp}
    (hsl : slot n ops env i = some (o, d)) (hop : o.op = .call ⟨.builtin .append, #[s, x], #[t, t']⟩)
    (hs : ev env s = some (.slice a (List.length ([] : List α)) cap)) (hx : ev env x = some (.slice a2 ys.length cap2)) (hu : T.und t = some (.slice E)) (hu' : T.und t' = some (.slice E'))
    (hi : T.inf E = some (sz, by', z)) (hk : kd.size = sz) (hz : (cellsL z).length = sz) (hj : idx g HL = some Hj) (so : SliceD kd E ([] : List α) a cap Hj) (hq : idx q HL = some Hq) (sy : SliceD kd E ys a2 cap2 Hq)
    (hb : List.length ([] : List α) + ys.length ≤ 1099511627776) (hby : Nat.ble by' 128 = true)
    (h : ∀ a' cap' H', SliceB kd E (([] : List α) ++ ys) a' cap' H' Hq → AtL W n K ((d, .slice a' (([] : List α) ++ ys).length cap') :: env) (HL.set g H')) : AtL W n (wpOp P ops Q i K) env HL := by
  obtain ⟨cc, H0, R, h0, ⟨rfl, rfl⟩, rfl⟩ := so
  obtain ⟨dd, G0, S, g0, gl, rfl⟩ := sy
  have l2 := ldr_len _ _ _ gl
  have sr : SliceR (Fl.raw kd.size kd.pos) dd a2 HL.flatten := g0.r.mono (fun c hc => by
    rw [idx_eq] at hq
    exact mem_group hq (List.mem_append_left _ hc))
  rw [List.append_nil] at hj
  refine at_ap (k := Fl.raw kd.size kd.pos) T hsl hop hs (by rw [l2]; exact hx) hu hu' hi hk hz hj h0 sr (by rw [l2]; exact hb) hby (fun a' cap' H' so' => ?_)
  have hh := h a' cap' H' ⟨dd, H', [], by simpa using so', by simpa using l2, by simp, fun i hi => by
    rw [List.nil_append, List.nil_append]
    exact kd.mono _ _ _ _ (ldr_rdr gl (by simpa using hi)) (fun c hc => List.mem_append_right _ hc)⟩
  have e0 : (([] : List (Rw kd.size)) ++ dd).length = (([] : List α) ++ ys).length := by simp [l2]
  rw [e0]
  exact hh
/-- a slice of one such thing that is read elsewhere -/
theorem at_sb1 (T : Ty P) {d t sz by' : Nat} {z : Value} {parts : Array (Nat × Operand)} {v : Value} {c : List Value} {Hl : Hp} (x : α)
    (hsl : slot n ops env i = some (o, d)) (hop : o.op = .buildSlice t 1 parts) (hu : T.und t = some (.slice E)) (hi : T.inf E = some (sz, by', z)) (hk : kd.size = sz) (hz : (cellsL z).length = sz)
    (hn : Nat.ble (1 * sz) 16777216 = true) (hp : (parts.toList.mapM fun p => (ev env p.2).map fun v => (p.1, v)) = some [(0, v)]) (hv : cellsL v = c)
    (hl : Nat.beq c.length sz = true) (hpl : c.all (·.oneCell') = true) (hx : kd.rdr x c Hl)
    (h : ∀ a H', SliceB kd E [x] a (List.length [x]) H' Hl → AtL W n K ((d, .slice a (List.length [x]) (List.length [x])) :: env) (HL ++ [H'])) : AtL W n (wpOp P ops Q i K) env HL := by
  have hcl : c.length = kd.size := by rw [hk]; exact Nat.eq_of_beq_eq_true hl
  refine at_bs (k := Fl.raw kd.size kd.pos) T [(⟨c, hcl, fun v hv => List.all_eq_true.1 hpl v hv⟩ : Rw kd.size)] hsl hop hu hi hz hn hp ?_ rfl (fun a H' so => ?_)
  · subst hv
    have e : (Nat.beq (cellsL v).length sz && Nat.ble (0 * sz + (cellsL v).length) ((List.range (1 * sz)).map fun i => ((cellsL z)[i % sz]?).getD default).length) = true := by
      rw [hcl, hk]; simp
    simp only [fillL, e, cond_true]
    simp only [row, List.map_cons, List.map_nil, List.flatten_cons, List.flatten_nil, List.append_nil, Fl.raw]
    have e2 : splice ((List.range (1 * sz)).map fun i => ((cellsL z)[i % sz]?).getD default) (0 * sz) (cellsL v) = cellsL v := by
      unfold splice
      rw [Nat.zero_mul, List.take_zero, List.nil_append, Nat.zero_add, List.drop_of_length_le (by simp; omega), List.append_nil]
    rw [e2]
  · refine h a H' ⟨_, H', [], so, rfl, by simp, fun i hi => ?_⟩
    have : i = 0 := by simpa using hi
    subst this
    exact hx
/-- such a slice appended to another one -/
theorem at_sbap2 (T : Ty P) {d g q : Nat} {s x : Operand} {t t' E' : TypeId} {xs ys : List α} {a a2 : Option Addr} {cap cap2 sz by' : Nat} {z : Value} {Hj Hq Hl : Hp}
    (hsl : slot n ops env i = some (o, d)) (hop : o.op = .call ⟨.builtin .append, #[s, x], #[t, t']⟩)
    (hs : ev env s = some (.slice a xs.length cap)) (hx : ev env x = some (.slice a2 ys.length cap2)) (hu : T.und t = some (.slice E)) (hu' : T.und t' = some (.slice E'))
    (hi : T.inf E = some (sz, by', z)) (hk : kd.size = sz) (hz : (cellsL z).length = sz) (hj : idx g HL = some Hj) (so : SliceB kd E xs a cap Hj Hl) (hq : idx q HL = some Hq) (hne : Nat.beq g q = false) (sy : SliceB kd E ys a2 cap2 Hq Hl)
    (hb : xs.length + ys.length ≤ 1099511627776) (hby : Nat.ble by' 128 = true)
    (h : ∀ a' cap' H', SliceB kd E (xs ++ ys) a' cap' H' Hl → AtL W n K ((d, .slice a' (xs ++ ys).length cap') :: env) ((HL.set g H').set q [])) : AtL W n (wpOp P ops Q i K) env HL := by
  obtain ⟨cc, H0, R, h0, l1, rfl, r1⟩ := so
  obtain ⟨dd, G0, S, g0, l2, rfl, r2⟩ := sy
  have hne' : g ≠ q := fun e => by subst e; simp at hne
  have hj' := hj
  rw [idx_eq] at hj hq
  have hgl := (List.getElem?_eq_some_iff.1 hj).1
  have hql := (List.getElem?_eq_some_iff.1 hq).1
  refine at_split hj' ?_
  have e1 : idx g (HL.set g H0 ++ [R]) = some H0 := by
    rw [idx_eq, List.getElem?_append_left (by simpa using hgl)]; exact List.getElem?_set_self hgl
  have sr : SliceR (Fl.raw kd.size kd.pos) dd a2 (HL.set g H0 ++ [R]).flatten := g0.r.mono (fun c hc => by
    refine mem_group (j := q) (Hj := G0 ++ S) ?_ (List.mem_append_left _ hc)
    rw [List.getElem?_append_left (by simpa using hql), List.getElem?_set_ne hne']; exact hq)
  refine at_ap (k := Fl.raw kd.size kd.pos) T hsl hop (by rw [l1]; exact hs) (by rw [l2]; exact hx) hu hu' hi hk hz e1 h0 sr (by rw [l1, l2]; exact hb) hby (fun a' cap' H' so' => ?_)
  have hh := h a' cap' (H' ++ (R ++ S)) ⟨cc ++ dd, H', R ++ S, so', by simp [l1, l2], rfl, fun k hk => ?_⟩
  · have e0 : (cc ++ dd).length = (xs ++ ys).length := by simp [l1, l2]
    rw [e0]
    refine at_heap (fun w o => ?_) hh
    have e : (HL.set g H0 ++ [R]).set g H' = HL.set g H' ++ [R] := by
      rw [List.set_append_left _ _ (by simpa using hgl)]; simp
    rw [e] at o
    have o2 : Own W w ((HL.set g (H' ++ R))).flatten := o.perm (perm_split hgl).symm
    have hq2 : (HL.set g (H' ++ R))[q]? = some (G0 ++ S) := by rw [List.getElem?_set_ne hne']; exact hq
    have o3 : Own W w ((HL.set g (H' ++ R)).set q S).flatten := by
      refine own_set hq2 ?_
      have := own_get hq2 o2
      rw [List.append_assoc] at this
      exact this.right
    have hg4 : ((HL.set g (H' ++ R)).set q S)[g]? = some (H' ++ R) := by rw [List.getElem?_set_ne (Ne.symm hne')]; exact List.getElem?_set_self hgl
    have hq4 : ((HL.set g (H' ++ R)).set q S)[q]? = some S := List.getElem?_set_self (by simpa using hql)
    refine o3.perm ((perm_join hg4 hq4 hne').trans ?_)
    have e5 : (((HL.set g (H' ++ R)).set q S).set g (H' ++ R ++ S)).set q [] = (HL.set g (H' ++ (R ++ S))).set q [] := by
      rw [List.set_comm _ _ (Ne.symm hne'), List.set_set, List.set_set, List.append_assoc]
    rw [e5]
  · by_cases hkx : k < xs.length
    · have e2 : rd (xs ++ ys) (k : Int) = rd xs (k : Int) := rdl (by omega) (by omega)
      have e3 : rd (cc ++ dd) (k : Int) = rd cc (k : Int) := rdl (by omega) (by omega)
      rw [e2, e3]
      refine kd.mono _ _ _ _ (r1 k hkx) (fun c hc => ?_)
      rcases List.mem_append.1 hc with hc | hc
      · exact List.mem_append_left _ (List.mem_append_left _ hc)
      · exact List.mem_append_right _ hc
    · have hk2 : k - xs.length < ys.length := by rw [List.length_append] at hk; omega
      have ei : (k : Int) - xs.length = ((k - xs.length : Nat) : Int) := by omega
      have e2 : rd (xs ++ ys) (k : Int) = rd ys ((k - xs.length : Nat) : Int) := by rw [rdr (by omega), ei]
      have e3 : rd (cc ++ dd) (k : Int) = rd dd ((k - xs.length : Nat) : Int) := by rw [rdr (by omega), l1, ei]
      rw [e2, e3]
      refine kd.mono _ _ _ _ (r2 _ hk2) (fun c hc => ?_)
      rcases List.mem_append.1 hc with hc | hc
      · exact List.mem_append_left _ (List.mem_append_right _ hc)
      · exact List.mem_append_right _ hc
/-- a whole element is stored -/
theorem at_sbst (T : Ty P) {b off t : Nat} {x y : Operand} {v : Value} {sz by' cap : Nat} {z : Value} {Hj Hl : Hp} {xs : List α} {a : Option Addr} {j : Int} (g : Nat) (cs' : List Value)
    (hsl : slot0 ops env i = some o) (hop : o.op = .store t x y) (hx : ev env x = some (.pointer (some ⟨b, off + j.toNat * kd.size + 0, none⟩)))
    (hy : ev env y = some v) (hi : T.inf t = some (sz, by', z)) (hj : idx g HL = some Hj) (hs : SliceB kd E xs a cap Hj Hl) (ha : a = some ⟨b, off, none⟩) (hb : 0 ≤ j ∧ j < (xs.length : Int))
    (hl : Nat.beq (cellsL v).length sz = true) (hk : Nat.beq sz kd.size = true) (hp : (cellsL v).all (·.oneCell') = true) (he : cellsL v = cs')
    (h : ∀ H', SliceBH kd E xs a cap j cs' H' Hl → AtL W n K env (HL.set g H')) : AtL W n (wpOp P ops Q i K) env HL := by
  obtain ⟨cc, H0, R, h0, hcl, rfl, h3⟩ := hs
  have hj' := hj
  rw [idx_eq] at hj
  have hgl := (List.getElem?_eq_some_iff.1 hj).1
  have hksz := Nat.eq_of_beq_eq_true hk
  have hlv := Nat.eq_of_beq_eq_true hl
  refine at_split hj' ?_
  have hg : idx g (HL.set g H0 ++ [R]) = some H0 := by
    rw [idx_eq, List.getElem?_append_left (by simpa using hgl)]; exact List.getElem?_set_self hgl
  subst he
  have hcs' : (cellsL v).length = kd.size := by omega
  refine at_se (k := Fl.raw kd.size kd.pos) T g 0 (⟨cellsL v, hcs', fun u hu => List.all_eq_true.1 hp u hu⟩ : Rw kd.size) hsl hop hx hy hi hg h0 ha ⟨hb.1, by rw [hcl]; exact hb.2⟩ hl (by rw [Nat.zero_add, hksz]; exact Nat.ble_self_eq_true _) ?_ (fun H' so' => ?_)
  · show cellsL v = splice (rd cc j).val 0 (cellsL v)
    unfold splice
    rw [List.take_zero, List.nil_append, Nat.zero_add, List.drop_of_length_le (by rw [(rd cc j).len]; omega), List.append_nil]
  · refine at_heap (fun w o => ?_) (h (H' ++ R) ⟨hb, _, H', R, so', by simp [hcl], ?_, rfl, fun k hk' hne => ?_⟩)
    · refine o.perm ?_
      have e : (HL.set g H0 ++ [R]).set g H' = HL.set g H' ++ [R] := by
        rw [List.set_append_left _ _ (by simpa using hgl)]; simp
      rw [e]
      exact (perm_split hgl).symm
    · rw [rd_eq (by simp; omega)]; simp
    · have e1 : rd (cc.set j.toNat ⟨cellsL v, hcs', fun u hu => List.all_eq_true.1 hp u hu⟩) (k : Int) = rd cc (k : Int) := by
        unfold rd
        rw [List.getD_eq_getElem?_getD, List.getD_eq_getElem?_getD, List.getElem?_set_ne (by omega)]
      rw [e1]
      exact h3 k hk'
end rules
end
end
end Go.Hx
