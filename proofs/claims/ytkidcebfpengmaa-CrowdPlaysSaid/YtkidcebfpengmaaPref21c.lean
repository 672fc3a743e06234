import Derived.Test.YtkidcebfpengmaaPlaw25
namespace Go.Proofs.Ytkidcebfpengmaa
open Go.Hx
set_option linter.unusedVariables false
set_option linter.unusedSimpArgs false

variable {w : herdsmanref21_Crowd}
theorem cat_l (hb : w.U.L.length ≤ 1000000) (id : Int) : ∀ (n k : Nat) (i : Int), i + n = w.U.L.length → 0 ≤ i → n < k → (∀ j, 0 ≤ j → j < i → (rd w.U.L j).Id ≠ id) →
    (∃ p : Int, ref21_Units_at.l0 k w id i = some p ∧ 0 ≤ p ∧ p < w.U.L.length ∧ (rd w.U.L p).Id = id ∧ ∀ j, 0 ≤ j → j < p → (rd w.U.L j).Id ≠ id) ∨
      (ref21_Units_at.l0 k w id i = some (-1) ∧ ∀ x ∈ w.U.L, x.Id ≠ id) := by
  intro n
  induction n with
  | zero =>
    intro k i hi h0 hk hp
    obtain ⟨k, rfl⟩ := kpos hk
    right
    refine ⟨by rw [ref21_Units_at.l0, if_neg (by omega)], fun x hx => ?_⟩
    obtain ⟨j, j0, j1, rfl⟩ := memrd hx
    exact hp j j0 (by omega)
  | succ n ih =>
    intro k i hi h0 hk hp
    obtain ⟨k, rfl⟩ := kpos hk
    rw [ref21_Units_at.l0, if_pos (by omega), if_pos (by omega), wi (by omega) (by omega)]
    by_cases e : (rd w.U.L i).Id = id
    · rw [if_pos (by simpa using e)]
      exact .inl ⟨i, rfl, h0, by omega, e, hp⟩
    · rw [if_neg (by simpa using e)]
      refine ih k (i + 1) (by omega) (by omega) (by omega) (fun j j0 j1 => ?_)
      by_cases q : j = i
      · rw [q]; exact e
      · exact hp j j0 (by omega)
theorem cat_f (hb : w.U.L.length ≤ 1000000) (id : Int) : (∃ p : Int, ref21_Units_at.f w id = some p ∧ 0 ≤ p ∧ p < w.U.L.length ∧ (rd w.U.L p).Id = id ∧ uFind w.U.L id = some (rd w.U.L p)) ∨
      (ref21_Units_at.f w id = some (-1) ∧ uFind w.U.L id = none) := by
  unfold ref21_Units_at.f
  rcases cat_l hb id w.U.L.length fuel 0 (by omega) (by omega) (by rw [fuelv]; omega) (fun j j0 j1 => by omega) with ⟨p, h1, h2, h3, h4, h5⟩ | ⟨h1, h2⟩
  · refine .inl ⟨p, h1, h2, h3, h4, ?_⟩
    unfold uFind
    have hlt : p.toNat < w.U.L.length := by omega
    rw [List.find?_eq_some_iff_getElem]
    refine ⟨by simpa using h4, p.toNat, hlt, (rd_eq hlt).symm, fun j hj => ?_⟩
    have := h5 (j : Int) (by omega) (by omega)
    rw [rdn (by omega)] at this
    simpa using this
  · refine .inr ⟨h1, ?_⟩
    unfold uFind
    rw [List.find?_eq_none]
    intro x hx; simpa using h2 x hx
theorem crget_f (hb : w.U.L.length ≤ 1000000) (id : Int) : ref21_Units_Get.f w id = some (uGet w.U.L id) := by
  unfold ref21_Units_Get.f uGet
  rcases cat_f hb id with ⟨p, h1, h2, h3, h4, h5⟩ | ⟨h1, h2⟩
  · rw [h1, h5, Option.bind_some, if_neg (by omega), if_pos (by omega)]
  · rw [h1, h2, Option.bind_some, if_pos (by omega)]
theorem cradd_f (hb : w.U.L.length ≤ 1000000) (hn : 0 ≤ w.U.Next ∧ w.U.Next ≤ 1000000) (hm : (w.U.L.length : Int) < w.U.Most) (c g : Int) : ref21_Units_Add.f w c g = some (w.U.Next, true, ⟨w.W, w.H, ⟨w.U.Most, w.U.Next + 1, w.U.L ++ [⟨w.U.Next, c, g⟩]⟩⟩) := by
  unfold ref21_Units_Add.f
  rw [if_neg (by omega), if_pos (by simp; omega), if_pos (by simp; omega), Option.bind_some, wi (x := w.U.Next + 1) (by omega) (by omega), wi (by omega) (by omega)]
  simp
theorem crset_f (hb : w.U.L.length ≤ 1000000) (hu : (w.U.L.map (·.Id)).Pairwise (· < ·)) (x : api_Unit) : ref21_Units_Set.f w x = some (uHas w.U.L x.Id, ⟨w.W, w.H, ⟨w.U.Most, w.U.Next, uTurn w.U.L x.Id (fun _ => x)⟩⟩) := by
  unfold ref21_Units_Set.f uHas
  rcases cat_f hb x.Id with ⟨p, h1, h2, h3, h4, h5⟩ | ⟨h1, h2⟩
  · rw [h1, h5, Option.bind_some, if_neg (by omega), if_pos (by simp; omega), if_pos (by simp; omega)]
    have : List.set w.U.L p.toNat x = uTurn w.U.L x.Id (fun _ => x) := by
      refine rdext (by simp [uTurn]) (fun i i0 i1 => ?_)
      rw [List.length_set] at i1
      unfold uTurn
      rw [rds h2 h3 i0, rdmap i0 i1]
      by_cases e : i = p
      · rw [if_pos e, e, h4, if_pos rfl]
      · rw [if_neg e, if_neg]
        intro q
        rcases Int.lt_or_gt_of_ne e with z | z
        · have := pairrd hu (i := i) (j := p) i0 z (by simpa using h3)
          rw [rdmap (by omega) (by omega), rdmap (by omega) (by omega)] at this; omega
        · have := pairrd hu (i := p) (j := i) h2 z (by simpa using i1)
          rw [rdmap (by omega) (by omega), rdmap (by omega) (by omega)] at this; omega
    simp [this]
  · rw [h1, h2, Option.bind_some, if_pos (by omega)]
    have : uTurn w.U.L x.Id (fun _ => x) = w.U.L := by
      unfold uTurn
      conv => rhs; rw [← List.map_id w.U.L]
      refine List.map_congr_left fun y hy => ?_
      rw [if_neg (uFind_none h2 y hy)]; rfl
    rw [this]; rfl
theorem crdrop_f (hb : w.U.L.length ≤ 1000000) (hu : (w.U.L.map (·.Id)).Pairwise (· < ·)) (id : Int) : ref21_Units_Drop.f w id = some (uHas w.U.L id, ⟨w.W, w.H, ⟨w.U.Most, w.U.Next, uDrop w.U.L id⟩⟩) := by
  unfold ref21_Units_Drop.f uHas
  rcases cat_f hb id with ⟨p, h1, h2, h3, h4, h5⟩ | ⟨h1, h2⟩
  · rw [h1, h5, Option.bind_some, if_neg (by omega), if_pos (by omega), wi (by omega) (by omega), if_pos (by omega)]
    have e1 : sub' w.U.L 0 p = w.U.L.take p.toNat := by simp [sub']
    have e2 : sub' w.U.L (p + 1) (w.U.L.length : Int) = w.U.L.drop (p + 1).toNat := by
      unfold sub'; rw [List.take_of_length_le]; simp
    have e3 : w.U.L.take p.toNat ++ w.U.L.drop (p + 1).toNat = uDrop w.U.L id := by
      have hs : w.U.L = w.U.L.take p.toNat ++ (rd w.U.L p :: w.U.L.drop (p + 1).toNat) := by rw [← dropc h2 h3, List.take_append_drop]
      unfold uDrop
      conv => rhs; rw [hs]
      rw [hs, List.map_append, List.map_cons, List.pairwise_append, List.pairwise_cons] at hu
      obtain ⟨_, ⟨u1, _⟩, u2⟩ := hu
      rw [List.filter_append, List.filter_cons, if_neg (by simp [h4])]
      congr 1
      · symm; rw [List.filter_eq_self]
        intro y hy
        have := u2 y.Id (List.mem_map.2 ⟨y, hy, rfl⟩) _ (List.mem_cons_self ..)
        simp; omega
      · symm; rw [List.filter_eq_self]
        intro y hy
        have := u1 y.Id (List.mem_map.2 ⟨y, hy, rfl⟩)
        simp; omega
    rw [if_pos (by rw [e1]; simp; omega), if_pos (by rw [e1, e2]; simp; omega), e1, e2]
    simp [e3]
  · rw [h1, h2, Option.bind_some, if_pos (by omega), uDrop_none h2]; rfl

variable {c : crowd_Crowd} {v h most : Int} {L : List api_Unit}
theorem crwho_l (hb : w.U.L.length ≤ 1000000) (cell : Int) : ∀ (n k : Nat) (i : Int), i + n = w.U.L.length → 0 ≤ i → n < k → ref21_Crowd_Who.l0 k w cell i = some (cWho (w.U.L.drop i.toNat) cell) := by
  intro n
  induction n with
  | zero =>
    intro k i hi h0 hk
    obtain ⟨k, rfl⟩ := kpos hk
    rw [ref21_Crowd_Who.l0, if_neg (by omega), List.drop_of_length_le (by omega)]; rfl
  | succ n ih =>
    intro k i hi h0 hk
    obtain ⟨k, rfl⟩ := kpos hk
    rw [ref21_Crowd_Who.l0, if_pos (by omega), if_pos (by omega), wi (by omega) (by omega), dropc h0 (by omega)]
    unfold cWho
    by_cases e : (rd w.U.L i).Cell = cell
    · rw [if_pos (by simpa using e)]
      simp [e]
    · rw [if_neg (by simpa using e), ih k (i + 1) (by omega) (by omega) (by omega)]
      have : ((rd w.U.L i).Cell == cell) = false := by simpa using e
      rw [List.find?_cons, this]; rfl
theorem crwho_f (hb : w.U.L.length ≤ 1000000) (cell : Int) : ref21_Crowd_Who.f w cell = some (cWho w.U.L cell) := by
  unfold ref21_Crowd_Who.f
  rw [crwho_l hb cell w.U.L.length fuel 0 (by omega) (by omega) (by rw [fuelv]; omega)]; rfl

/-- the document's crowd is this one -/
structure RS (x : herdsmanref21_Crowd) (c : crowd_Crowd) (v h most : Int) (L : List api_Unit) : Prop where
  w_ : x.W = v
  h_ : x.H = h
  m_ : x.U.Most = most
  n_ : x.U.Next = c.units.next
  l_ : x.U.L = L
  cs : CS c v h most L

theorem RS.lb (hr : RS w c v h most L) : w.U.L.length ≤ 1000000 := by
  rw [hr.l_]; have := hr.cs.us.cnt; have := hr.cs.next; omega
theorem RS.up (hr : RS w c v h most L) : (w.U.L.map (·.Id)).Pairwise (· < ·) := by rw [hr.l_]; exact hr.cs.us.up

theorem rspawn_f (hr : RS w c v h most L) (hn : c.units.next < 1000000) (cell goal : Int) : ∃ w', ref21_Crowd_Spawn.f w cell goal = some ((cSpawn v h most L c.units.next cell goal).1, (cSpawn v h most L c.units.next cell goal).2.1, w') ∧
    w'.W = v ∧ w'.H = h ∧ w'.U.Most = most ∧ w'.U.Next = c.units.next + (if (cSpawn v h most L c.units.next cell goal).2.1 = 0 then 1 else 0) ∧ w'.U.L = (cSpawn v h most L c.units.next cell goal).2.2 := by
  have hlb := hr.lb
  have hc := hr.cs
  have hnx := hc.next
  unfold ref21_Crowd_Spawn.f
  rw [hr.w_, hr.h_, riscell_f, riscell_f, crwho_f hlb, hr.l_, hr.m_]
  simp only [Option.bind_some]
  have stay : w.W = v ∧ w.H = h ∧ w.U.Most = most ∧ w.U.Next = c.units.next + 0 ∧ w.U.L = L := ⟨hr.w_, hr.h_, hr.m_, by rw [hr.n_]; omega, hr.l_⟩
  by_cases a : CellS v h cell
  · by_cases b : CellS v h goal
    · simp only [decide_eq_true a, decide_eq_true b, Bool.not_true, Bool.false_eq_true, if_false, Option.bind_some]
      by_cases d : cWho L cell = -1
      · rw [if_neg (by omega)]
        by_cases e : most ≤ (L.length : Int)
        · rw [if_pos (by omega), cs_3 a b d e]; exact ⟨w, rfl, stay⟩
        · rw [if_neg (by omega)]
          by_cases g : cell = goal
          · rw [if_pos (by simpa using g), cs_4 a b d e g]; exact ⟨w, rfl, stay⟩
          · rw [if_neg (by simpa using g), cs_5 a b d e g, cradd_f hlb (by rw [hr.n_]; omega) (by rw [hr.l_, hr.m_]; omega)]
            simp only [Option.bind_some]
            refine ⟨⟨w.W, w.H, ⟨w.U.Most, w.U.Next + 1, w.U.L ++ [⟨w.U.Next, cell, goal⟩]⟩⟩, by rw [hr.n_], hr.w_, hr.h_, hr.m_, by simp [hr.n_], by simp [hr.l_, hr.n_]⟩
      · have : 0 ≤ cWho L cell := by
          unfold cWho at d ⊢
          cases hf : L.find? (fun x => x.Cell == cell) with
          | none => rw [hf] at d; exact absurd rfl d
          | some x => exact (hc.us.idr (List.mem_of_find?_eq_some hf)).1
        rw [if_pos (by omega), cs_2 a b d]; exact ⟨w, rfl, stay⟩
    · rw [cs_1 (.inr b)]
      simp only [decide_eq_true a, decide_eq_false b, Bool.not_true, Bool.not_false, Bool.false_eq_true, if_false, Option.bind_some, if_true]
      exact ⟨w, rfl, stay⟩
  · rw [cs_1 (.inl a)]
    simp only [decide_eq_false a, Bool.not_false, Option.bind_some, if_true]
    exact ⟨w, rfl, stay⟩

theorem rdespawn_f (hr : RS w c v h most L) (id : Int) : ∃ w', ref21_Crowd_Despawn.f w id = some ((cDespawn L id).1, w') ∧ w'.W = v ∧ w'.H = h ∧ w'.U.Most = most ∧ w'.U.Next = c.units.next ∧ w'.U.L = (cDespawn L id).2 := by
  unfold ref21_Crowd_Despawn.f cDespawn
  rw [crdrop_f hr.lb hr.up, hr.l_]
  simp only [Option.bind_some]
  by_cases q : uHas L id = true
  · rw [q]
    exact ⟨_, rfl, hr.w_, hr.h_, hr.m_, hr.n_, rfl⟩
  · have q' : uHas L id = false := by simpa using q
    have hf : uFind L id = none := by
      unfold uHas at q'
      cases hf : uFind L id with
      | none => rfl
      | some x => rw [hf] at q'; cases q'
    rw [q']
    exact ⟨_, rfl, hr.w_, hr.h_, hr.m_, hr.n_, by simp [uDrop_none hf]⟩

theorem rretarget_f (hr : RS w c v h most L) (id goal : Int) : ∃ w', ref21_Crowd_Retarget.f w id goal = some ((cRetarget v h L id goal).1, w') ∧ w'.W = v ∧ w'.H = h ∧ w'.U.Most = most ∧ w'.U.Next = c.units.next ∧ w'.U.L = (cRetarget v h L id goal).2 := by
  unfold ref21_Crowd_Retarget.f cRetarget
  rw [crget_f hr.lb, hr.l_, hr.w_, hr.h_, Option.bind_some]
  unfold uGet
  cases hf : uFind L id with
  | none => exact ⟨w, rfl, hr.w_, hr.h_, hr.m_, hr.n_, hr.l_⟩
  | some x =>
    obtain ⟨h1, h2⟩ := uFind_some hf
    simp only [Bool.not_true, Bool.false_eq_true, if_false, riscell_f, Option.bind_some]
    by_cases q : CellS v h goal
    · simp only [decide_eq_true q, Bool.not_true, Bool.false_eq_true, if_false, if_neg (fun z : ¬ CellS v h goal => z q)]
      by_cases g : x.Cell = goal
      · rw [if_pos (by simpa using g), if_pos g, crdrop_f hr.lb hr.up, hr.l_]
        exact ⟨_, rfl, hr.w_, hr.h_, hr.m_, hr.n_, rfl⟩
      · rw [if_neg (by simpa using g), if_neg g, crset_f hr.lb hr.up, hr.l_]
        refine ⟨_, rfl, hr.w_, hr.h_, hr.m_, hr.n_, ?_⟩
        simp only [h2]
        unfold uTurn
        refine List.map_congr_left fun y hy => ?_
        by_cases z : y.Id = id
        · rw [if_pos z, if_pos z, id_inj hr.cs.us.up hy h1 (z.trans h2.symm)]
          show (⟨id, x.Cell, goal⟩ : api_Unit) = ⟨x.Id, x.Cell, goal⟩
          rw [h2]
        · rw [if_neg z, if_neg z]
    · simp only [decide_eq_false q, Bool.not_false, if_true, if_pos q]
      exact ⟨w, rfl, hr.w_, hr.h_, hr.m_, hr.n_, hr.l_⟩

theorem rtick_ok (hr : RS w c v h most L) {dirs : List Int} (hd : DirsOk dirs L.length) : ∃ w', ref21_Crowd_Tick.f w dirs = some ((gGo v h L dirs).2.1, (gGo v h L dirs).2.2, 0, w') ∧ w'.W = v ∧ w'.H = h ∧ w'.U.Most = most ∧ w'.U.Next = c.units.next ∧ w'.U.L = (gGo v h L dirs).1 := by
  have hlb := hr.lb
  rw [hr.l_] at hlb
  unfold ref21_Crowd_Tick.f
  obtain ⟨r, r1, r2⟩ := rdirs_f (dirs := dirs) (n := L.length) (by have := hd.1; omega)
  rw [hr.l_, r1, r2.2 hd, hr.w_, hr.h_]
  simp only [Option.bind_some, Bool.not_true, Bool.false_eq_true, if_false, rgo_f hr.cs.mayu hlb hd]
  exact ⟨_, rfl, rfl, rfl, hr.m_, hr.n_, rfl⟩
theorem rtick_bad (hr : RS w c v h most L) {dirs : List Int} (hb : dirs.length ≤ 1000000) (hd : ¬ DirsOk dirs L.length) : ref21_Crowd_Tick.f w dirs = some ([], [], 1, w) := by
  unfold ref21_Crowd_Tick.f
  obtain ⟨r, r1, r2⟩ := rdirs_f (dirs := dirs) (n := L.length) (by omega)
  have : r = false := by rw [Bool.eq_false_iff]; exact fun q => hd (r2.1 q)
  rw [hr.l_, r1, this]; rfl

theorem words_l (hc : CS c v h most L) (hx : c.units.next ≤ 100000) : ∀ (m k : Nat) (i : Int) (ws : List Int), i + m = L.length → 0 ≤ i → m < k → (ws.length : Int) = v * h →
    (∀ q : Int, 0 ≤ q → q < v * h → ((∃ j : Int, 0 ≤ j ∧ j < i ∧ (rd L j).Cell = q) ∧ rd ws q = rd c.floor.words q) ∨ ((∀ j : Int, 0 ≤ j → j < i → (rd L j).Cell ≠ q) ∧ rd ws q = 0)) →
    ref21_Words.l0 k L ws i = some c.floor.words := by
  have hlen := hc.fl.fl.1
  have hcn := hc.us.cnt
  intro m
  induction m with
  | zero =>
    intro k i ws hi h0 hk hl hw
    obtain ⟨k, rfl⟩ := kpos hk
    rw [ref21_Words.l0, if_neg (by omega)]
    congr 1
    refine rdext (by omega) (fun q q0 q1 => ?_)
    rcases hw q q0 (by omega) with ⟨_, e⟩ | ⟨z, e⟩
    · exact e
    · rw [e]
      refine Classical.byContradiction fun y => ?_
      obtain ⟨x, hx, e⟩ := hc.fl.only q q0 (by omega) (fun t => y t.symm)
      obtain ⟨j, j0, j1, rfl⟩ := memrd hx
      exact z j j0 (by omega) e
  | succ m ih =>
    intro k i ws hi h0 hk hl hw
    obtain ⟨k, rfl⟩ := kpos hk
    have hm : rd L i ∈ L := rdmem h0 (by omega)
    obtain ⟨f1, f2, f3⟩ := hc.fl.at_ _ hm
    have hid := hc.us.idr hm
    rw [ref21_Words.l0, if_pos (by omega), if_pos (by omega), if_pos (by omega), wi (x := (rd L i).Id + 1) (by omega) (by omega), w32i (by omega) (by omega), wi (by omega) (by omega)]
    refine ih k (i + 1) _ (by omega) (by omega) (by omega) (by simpa using hl) (fun q q0 q1 => ?_)
    rw [rds f1 (by omega) q0]
    by_cases e : q = (rd L i).Cell
    · rw [if_pos e]
      exact .inl ⟨⟨i, h0, by omega, e.symm⟩, by rw [e, f3]⟩
    · rw [if_neg e]
      rcases hw q q0 q1 with ⟨⟨j, j0, j1, j2⟩, g⟩ | ⟨z, g⟩
      · exact .inl ⟨⟨j, j0, by omega, j2⟩, g⟩
      · refine .inr ⟨fun j j0 j1 => ?_, g⟩
        by_cases y : j = i
        · subst y; exact fun t => e t.symm
        · exact z j j0 (by omega)
theorem rwords_f (hc : CS c v h most L) (hx : c.units.next ≤ 100000) : ref21_Words.f (v * h) L = some c.floor.words := by
  unfold ref21_Words.f
  have hp := may_prod hc.may
  have hcn := hc.us.cnt
  rw [if_pos (by omega)]
  refine words_l hc hx L.length fuel 0 _ (by omega) (by omega) (by rw [fuelv]; omega) (by simp; omega) (fun q q0 q1 => ?_)
  exact .inr ⟨fun j j0 j1 => by omega, rdrep q0 (by omega)⟩
theorem samewords_l {a : List Int} (hb : a.length ≤ 4611686018427387904) : ∀ (n k : Nat) (i : Int), i + n = a.length → 0 ≤ i → n < k → ref21_SameWords.l0 k a a i = some true := by
  intro n
  induction n with
  | zero =>
    intro k i hi h0 hk
    obtain ⟨k, rfl⟩ := kpos hk
    rw [ref21_SameWords.l0, if_neg (by omega)]
  | succ n ih =>
    intro k i hi h0 hk
    obtain ⟨k, rfl⟩ := kpos hk
    rw [ref21_SameWords.l0, if_pos (by omega), if_pos (by omega), if_pos (by omega), if_neg (by simp), wi (by omega) (by omega)]
    exact ih k (i + 1) (by omega) (by omega) (by omega)
theorem samewords_self {a : List Int} (hb : a.length ≤ 4611686018427387904) : ref21_SameWords.f a a = some true := by
  unfold ref21_SameWords.f
  rw [if_neg (by simp)]
  exact samewords_l hb a.length fuel 0 (by omega) (by omega) (by rw [fuelv]; omega)
end Go.Proofs.Ytkidcebfpengmaa
