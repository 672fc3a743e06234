import Derived.Test.YtkidcebfpengmaaT
import Derived.Test.YtkidcebfpengmaaFslices
namespace Go.Proofs.Ytkidcebfpengmaa
open Go.Hx
set_option maxRecDepth 100000
set_option linter.unusedVariables false
/-! ### herdsman/floor.New: function 54 -/
def floor_New.f (cells : Int) : Option (Option floor_Floor) := if ((decide (cells < 1)) || (decide (cells > 1048576))) = true then (some none) else (if (0 ≤ cells ∧ cells ≤ 1099511627776) then (some (some (floor_Floor.mk (List.replicate (Int.toNat cells) (0 : Int)) 0))) else none)
def floor_New.R (r : (Option floor_Floor)) (u : Value) (G : List Hp) : Prop := ∃ (u0 : Value) (G0 : List Hp), O_floor_Floor r u0 G0 ∧ u = u0 ∧ G = G0
set_option maxHeartbeats 4000000 in
theorem floor_New.c (cells : Int) (r : (Option floor_Floor)) (F : Hp) (H : floor_New.f cells = some r) :
    CallsL Try.prog 54 [(.int .i64 cells)] [F] (fun p : { p : Value × List Hp // floor_New.R r p.1 p.2 } => p.1.1) (fun p => (p.1.2 ++ []) ++ [F]) := by
  unfold floor_New.f at H
  refine calls_atL [(0, (.int .i64 cells))] Try.func54 rfl rfl ⟨rfl, trivial⟩ (fun W => ?_)
  refine at_seq ?_
  refine at_region [0] rfl ?_
  refine at_s T rfl ?_
  refine at_end ?_
  refine at_sub [(0, (.int .i64 cells))] ⟨rfl, trivial⟩ ?_
  refine at_then ?_
  refine at_seq ?_
  refine at_seq ?_
  refine at_region [0, 1, 2, 3, 4, 5] rfl ?_
  iterate 3 refine at_s T rfl ?_
  refine at_grp T [3, 4, 5] (s := 5) (c := (decide (cells < 1))) [(0, (.int .i64 cells)), (8, (.bool ((decide (cells < 1)) || (decide (cells > 1048576)))))] rfl rfl rfl (fun c1 => ⟨rfl, (by rw [c1]; rfl), trivial⟩) (fun c1 => ⟨rfl, (by rw [c1]; rfl), trivial⟩) ?_
  refine at_end ?_
  refine at_sub [(0, (.int .i64 cells)), (8, (.bool ((decide (cells < 1)) || (decide (cells > 1048576)))))] ⟨rfl, rfl, trivial⟩ ?_
  refine at_then ?_
  refine at_cond rfl (fun c2 => ?_) (fun c2 => ?_)
  · replace H := if_t c2 H
    refine at_seq ?_
    refine at_region [0] rfl ?_
    refine at_s T rfl ?_
    refine at_end ?_
    refine at_sub [(2, (.pointer none))] ⟨rfl, trivial⟩ ?_
    refine at_then ?_
    refine at_ret ?_
    refine at_rt ?_
    obtain rfl := Option.some.inj H
    exact at_post (T := T) rfl (.tmp rfl .nil) (fun w o => ⟨⟨(_, _), ⟨_, _, ⟨rfl, rfl⟩, rfl, rfl⟩⟩, rfl, own_to [0] rfl o⟩)
  · replace H := if_f (bf c2) H
    refine at_skip ?_
    refine at_then ?_
    refine at_seq ?_
    refine at_region [0, 1, 2, 3, 4] rfl ?_
    refine at_s T rfl ?_
    obtain ⟨c3, H⟩ := chk_e H
    refine at_cons (at_mk (k := (Fl.int .u32)) T (0 : Int) rfl rfl rfl rfl rfl rfl rfl rfl c3 rfl (fun a1 n1 H1 s1 => ?_))
    refine at_s T rfl ?_
    refine at_cons (at_bx T [(.slice a1 (List.length (List.replicate (Int.toNat cells) (0 : Int))) n1), (.int .i64 0)] rfl rfl rfl rfl (fun b2 => ?_))
    refine at_s T rfl ?_
    refine at_end ?_
    refine at_sub [(2, (.pointer (some ⟨b2, 0, none⟩)))] ⟨rfl, trivial⟩ ?_
    refine at_then ?_
    refine at_ret ?_
    obtain rfl := Option.some.inj H
    exact at_post (T := T) rfl (.tmp rfl .nil) (fun w o => ⟨⟨(_, _), ⟨_, _, ⟨b2, a1, n1, H1, s1, rfl, rfl⟩, rfl, rfl⟩⟩, rfl, own_to [2, 1, 0] rfl o⟩)

/-! ### (*herdsman/floor.Floor).is: function 76 -/
def floor_Floor_is.f (f : floor_Floor) (cell : Int) : Option Bool := (if cell ≥ 0 then (some (decide (cell < (List.length f.words : Int)))) else (some false)).bind fun x1 => some x1
set_option maxHeartbeats 4000000 in
theorem floor_Floor_is.c {b_f : Nat} {a_f_words : Option Addr} {n_f_words : Nat} {H_f_words : Hp} (f : floor_Floor) (cell : Int) (r : Bool) (F : Hp) (H : floor_Floor_is.f f cell = some r) (s_f_words : SliceO (Fl.int .u32) 74 f.words a_f_words n_f_words H_f_words) :
    CallsL Try.prog 76 [(.pointer (some ⟨b_f, 0, none⟩)), (.int .i64 cell)] [[(b_f, Obj.cells #[(.slice a_f_words (List.length f.words) n_f_words), (.int .i64 f.count)] 104 (0, 0))], H_f_words, F] (fun _ : Unit => (.bool r)) (fun _ => [[(b_f, Obj.cells #[(.slice a_f_words (List.length f.words) n_f_words), (.int .i64 f.count)] 104 (0, 0))], H_f_words] ++ [F]) := by
  unfold floor_Floor_is.f at H
  refine calls_atL [(0, (.pointer (some ⟨b_f, 0, none⟩))), (1, (.int .i64 cell))] Try.func76 rfl rfl ⟨rfl, rfl, trivial⟩ (fun W => ?_)
  refine at_seq ?_
  refine at_region [0] rfl ?_
  refine at_s T rfl ?_
  refine at_end ?_
  refine at_sub [(0, (.pointer (some ⟨b_f, 0, none⟩))), (1, (.int .i64 cell))] ⟨rfl, rfl, trivial⟩ ?_
  refine at_then ?_
  obtain ⟨z2, Z1, H⟩ := bind_e H
  refine at_seq_mid (σ := Bool) (fun x1 => x1 = z2) (fun x1 => [(4, (.bool x1))]) (fun x1 => [F, [(b_f, Obj.cells #[(.slice a_f_words (List.length f.words) n_f_words), (.int .i64 f.count)] 104 (0, 0))], H_f_words]) ?_ ?_
  · refine at_region [0, 1, 2, 3, 4, 5, 6, 7, 8, 9, 10, 11, 12, 13, 14, 15] rfl ?_
    iterate 7 refine at_s T rfl ?_
    refine at_case (s := 11) rfl (fun c2 => ?_) (fun c2 => ?_)
    · replace Z1 := if_t (of_decide_eq_true c2) Z1
      iterate 4 refine at_s T rfl ?_
      refine at_v rfl (g_load T rfl rfl rfl rfl (in_var (j := 0) rfl rfl)) ?_
      iterate 4 refine at_s T rfl ?_
      refine at_end ?_
      refine at_sub [(4, (.bool (decide (cell < (List.length f.words : Int)))))] ⟨rfl, trivial⟩ ?_
      refine at_then ?_
      obtain rfl := Option.some.inj Z1
      exact at_mid (decide (cell < (List.length f.words : Int))) [2, 0, 0] rfl ⟨rfl, trivial⟩ rfl
    · replace Z1 := if_f (of_decide_eq_false c2) Z1
      iterate 9 refine at_s T rfl ?_
      refine at_end ?_
      refine at_sub [(4, (.bool false))] ⟨rfl, trivial⟩ ?_
      refine at_then ?_
      obtain rfl := Option.some.inj Z1
      exact at_mid false [2, 0, 0] rfl ⟨rfl, trivial⟩ rfl
  · rintro x1 rfl
    refine at_ret ?_
    obtain rfl := Option.some.inj H
    exact at_post (T := T) rfl (.tmp rfl .nil) (fun w o => ⟨(), rfl, own_to [1, 1, 0] rfl o⟩)

/-! ### (*herdsman/floor.Floor).Who: function 58 -/
def floor_Floor_Who.f (f : floor_Floor) (cell : Int) : Option Int := (floor_Floor_is.f f cell).bind fun v1 => if (!v1) = true then (some (-1)) else (if (0 ≤ cell ∧ cell < (List.length f.words : Int)) then (some (w64 ((w64 (rd f.words cell)) - 1))) else none)
set_option maxHeartbeats 4000000 in
theorem floor_Floor_Who.c {b_f : Nat} {a_f_words : Option Addr} {n_f_words : Nat} {H_f_words : Hp} (f : floor_Floor) (cell : Int) (r : Int) (F : Hp) (H : floor_Floor_Who.f f cell = some r) (s_f_words : SliceO (Fl.int .u32) 74 f.words a_f_words n_f_words H_f_words) :
    CallsL Try.prog 58 [(.pointer (some ⟨b_f, 0, none⟩)), (.int .i64 cell)] [[(b_f, Obj.cells #[(.slice a_f_words (List.length f.words) n_f_words), (.int .i64 f.count)] 104 (0, 0))], H_f_words, F] (fun _ : Unit => (.int .i64 r)) (fun _ => [[(b_f, Obj.cells #[(.slice a_f_words (List.length f.words) n_f_words), (.int .i64 f.count)] 104 (0, 0))], H_f_words] ++ [F]) := by
  unfold floor_Floor_Who.f at H
  refine calls_atL [(0, (.pointer (some ⟨b_f, 0, none⟩))), (1, (.int .i64 cell))] Try.func58 rfl rfl ⟨rfl, rfl, trivial⟩ (fun W => ?_)
  refine at_seq ?_
  refine at_region [0] rfl ?_
  refine at_s T rfl ?_
  refine at_end ?_
  refine at_sub [(0, (.pointer (some ⟨b_f, 0, none⟩))), (1, (.int .i64 cell))] ⟨rfl, rfl, trivial⟩ ?_
  refine at_then ?_
  refine at_seq ?_
  refine at_seq ?_
  refine at_region [0, 1, 2, 3] rfl ?_
  iterate 2 refine at_s T rfl ?_
  obtain ⟨v1, V1, H⟩ := bind_e H
  refine at_cons (at_c (As := [[(b_f, Obj.cells #[(.slice a_f_words (List.length f.words) n_f_words), (.int .i64 f.count)] 104 (0, 0))], H_f_words]) (R := [F]) (B := fun _ => [[(b_f, Obj.cells #[(.slice a_f_words (List.length f.words) n_f_words), (.int .i64 f.count)] 104 (0, 0))], H_f_words]) [0, 0] rfl rfl rfl rfl has76 rfl rfl (floor_Floor_is.c f cell v1 _ V1 s_f_words) (fun _ => ?_))
  refine at_s T rfl ?_
  refine at_end ?_
  refine at_sub [(0, (.pointer (some ⟨b_f, 0, none⟩))), (1, (.int .i64 cell)), (8, (.bool (!v1)))] ⟨rfl, rfl, rfl, trivial⟩ ?_
  refine at_then ?_
  refine at_cond rfl (fun c2 => ?_) (fun c2 => ?_)
  · replace H := if_t c2 H
    refine at_seq ?_
    refine at_region [0] rfl ?_
    refine at_s T rfl ?_
    refine at_end ?_
    refine at_sub [(4, (.int .i64 (-1)))] ⟨rfl, trivial⟩ ?_
    refine at_then ?_
    refine at_ret ?_
    refine at_rt ?_
    obtain rfl := Option.some.inj H
    exact at_post (T := T) rfl (.tmp rfl .nil) (fun w o => ⟨(), rfl, own_to [1, 1, 0] rfl o⟩)
  · replace H := if_f (bf c2) H
    refine at_skip ?_
    refine at_then ?_
    refine at_seq ?_
    refine at_region [0, 1, 2, 3, 4, 5, 6, 7, 8, 9] rfl ?_
    iterate 3 refine at_s T rfl ?_
    refine at_v rfl (g_load T rfl rfl rfl rfl (in_var (j := 1) rfl rfl)) ?_
    refine at_s T rfl ?_
    obtain ⟨c3, H⟩ := chk_e H
    obtain ⟨q3, o3, e3⟩ := s_f_words.r.addr c3.1 c3.2
    refine at_v rfl (g_index T rfl rfl rfl rfl rfl e3 c3.1 c3.2) ?_
    refine at_v rfl (g_load T rfl rfl rfl rfl (in_elem1 (k := (Fl.int .u32)) (own_of s_f_words (j := 2) rfl) e3 c3 0 rfl)) ?_
    iterate 3 refine at_s T rfl ?_
    refine at_end ?_
    refine at_sub [(4, (.int .i64 (w64 ((w64 (rd f.words cell)) - 1))))] ⟨rfl, trivial⟩ ?_
    refine at_then ?_
    refine at_ret ?_
    obtain rfl := Option.some.inj H
    exact at_post (T := T) rfl (.tmp rfl .nil) (fun w o => ⟨(), rfl, own_to [1, 1, 0] rfl o⟩)

/-! ### (*herdsman/floor.Floor).free: function 75 -/
def floor_Floor_free.f (f : floor_Floor) (cell : Int) : Option Bool := ((floor_Floor_is.f f cell).bind fun v3 => if v3 = true then (if (0 ≤ cell ∧ cell < (List.length f.words : Int)) then (some ((rd f.words cell) == 0)) else none) else (some false)).bind fun x1 => some x1
set_option maxHeartbeats 4000000 in
theorem floor_Floor_free.c {b_f : Nat} {a_f_words : Option Addr} {n_f_words : Nat} {H_f_words : Hp} (f : floor_Floor) (cell : Int) (r : Bool) (F : Hp) (H : floor_Floor_free.f f cell = some r) (s_f_words : SliceO (Fl.int .u32) 74 f.words a_f_words n_f_words H_f_words) :
    CallsL Try.prog 75 [(.pointer (some ⟨b_f, 0, none⟩)), (.int .i64 cell)] [[(b_f, Obj.cells #[(.slice a_f_words (List.length f.words) n_f_words), (.int .i64 f.count)] 104 (0, 0))], H_f_words, F] (fun _ : Unit => (.bool r)) (fun _ => [[(b_f, Obj.cells #[(.slice a_f_words (List.length f.words) n_f_words), (.int .i64 f.count)] 104 (0, 0))], H_f_words] ++ [F]) := by
  unfold floor_Floor_free.f at H
  refine calls_atL [(0, (.pointer (some ⟨b_f, 0, none⟩))), (1, (.int .i64 cell))] Try.func75 rfl rfl ⟨rfl, rfl, trivial⟩ (fun W => ?_)
  refine at_seq ?_
  refine at_region [0] rfl ?_
  refine at_s T rfl ?_
  refine at_end ?_
  refine at_sub [(0, (.pointer (some ⟨b_f, 0, none⟩))), (1, (.int .i64 cell))] ⟨rfl, rfl, trivial⟩ ?_
  refine at_then ?_
  obtain ⟨z2, Z1, H⟩ := bind_e H
  refine at_seq_mid (σ := Bool) (fun x1 => x1 = z2) (fun x1 => [(4, (.bool x1))]) (fun x1 => [F, [(b_f, Obj.cells #[(.slice a_f_words (List.length f.words) n_f_words), (.int .i64 f.count)] 104 (0, 0))], H_f_words]) ?_ ?_
  · refine at_region [0, 1, 2, 3, 4, 5, 6, 7, 8, 9, 10, 11, 12, 13] rfl ?_
    iterate 2 refine at_s T rfl ?_
    obtain ⟨v3, V2, Z1⟩ := bind_e Z1
    refine at_cons (at_c (As := [[(b_f, Obj.cells #[(.slice a_f_words (List.length f.words) n_f_words), (.int .i64 f.count)] 104 (0, 0))], H_f_words]) (R := [F]) (B := fun _ => [[(b_f, Obj.cells #[(.slice a_f_words (List.length f.words) n_f_words), (.int .i64 f.count)] 104 (0, 0))], H_f_words]) [0, 0] rfl rfl rfl rfl has76 rfl rfl (floor_Floor_is.c f cell v3 _ V2 s_f_words) (fun _ => ?_))
    refine at_s T rfl ?_
    refine at_case (s := 8) rfl (fun c3 => ?_) (fun c3 => ?_)
    · replace Z1 := if_t c3 Z1
      iterate 3 refine at_s T rfl ?_
      refine at_v rfl (g_load T rfl rfl rfl rfl (in_var (j := 1) rfl rfl)) ?_
      refine at_s T rfl ?_
      obtain ⟨c4, Z1⟩ := chk_e Z1
      obtain ⟨q3, o3, e3⟩ := s_f_words.r.addr c4.1 c4.2
      refine at_v rfl (g_index T rfl rfl rfl rfl rfl e3 c4.1 c4.2) ?_
      refine at_v rfl (g_load T rfl rfl rfl rfl (in_elem1 (k := (Fl.int .u32)) (own_of s_f_words (j := 2) rfl) e3 c4 0 rfl)) ?_
      iterate 3 refine at_s T rfl ?_
      refine at_end ?_
      refine at_sub [(4, (.bool ((rd f.words cell) == 0)))] ⟨rfl, trivial⟩ ?_
      refine at_then ?_
      obtain rfl := Option.some.inj Z1
      exact at_mid ((rd f.words cell) == 0) [0, 0, 0] rfl ⟨rfl, trivial⟩ rfl
    · replace Z1 := if_f (bf c3) Z1
      iterate 10 refine at_s T rfl ?_
      refine at_end ?_
      refine at_sub [(4, (.bool false))] ⟨rfl, trivial⟩ ?_
      refine at_then ?_
      obtain rfl := Option.some.inj Z1
      exact at_mid false [0, 0, 0] rfl ⟨rfl, trivial⟩ rfl
  · rintro x1 rfl
    refine at_ret ?_
    obtain rfl := Option.some.inj H
    exact at_post (T := T) rfl (.tmp rfl .nil) (fun w o => ⟨(), rfl, own_to [1, 1, 0] rfl o⟩)

/-! ### (*herdsman/floor.Floor).Put: function 57 -/
def floor_Floor_Put.f (f : floor_Floor) (cell : Int) (id : Int) : Option (Bool × floor_Floor) := (floor_Floor_free.f f cell).bind fun v1 => if (((!v1) || (decide (id < 0))) || (decide (id ≥ 4294967295))) = true then (some (false, f)) else (if (0 ≤ cell ∧ cell < (List.length f.words : Int)) then (some (true, (floor_Floor.mk (List.set f.words (Int.toNat cell) (wu32 (w64 (id + 1)))) (w64 (f.count + 1))))) else none)
def floor_Floor_Put.R (b_f : Nat) (r : (Bool × floor_Floor)) (u : Value) (G : List Hp) : Prop := ∃ (a0 : Option Addr) (n0 : Nat) (H0 : Hp), SliceO (Fl.int .u32) 74 r.2.words a0 n0 H0 ∧ u = (.bool r.1) ∧ G = [[(b_f, Obj.cells #[(.slice a0 (List.length r.2.words) n0), (.int .i64 r.2.count)] 104 (0, 0))], H0]
set_option maxHeartbeats 4000000 in
theorem floor_Floor_Put.c {b_f : Nat} {a_f_words : Option Addr} {n_f_words : Nat} {H_f_words : Hp} (f : floor_Floor) (cell : Int) (id : Int) (r : (Bool × floor_Floor)) (F : Hp) (H : floor_Floor_Put.f f cell id = some r) (s_f_words : SliceO (Fl.int .u32) 74 f.words a_f_words n_f_words H_f_words) :
    CallsL Try.prog 57 [(.pointer (some ⟨b_f, 0, none⟩)), (.int .i64 cell), (.int .i64 id)] [[(b_f, Obj.cells #[(.slice a_f_words (List.length f.words) n_f_words), (.int .i64 f.count)] 104 (0, 0))], H_f_words, F] (fun p : { p : Value × List Hp // floor_Floor_Put.R b_f r p.1 p.2 } => p.1.1) (fun p => (p.1.2 ++ []) ++ [F]) := by
  unfold floor_Floor_Put.f at H
  refine calls_atL [(0, (.pointer (some ⟨b_f, 0, none⟩))), (1, (.int .i64 cell)), (2, (.int .i64 id))] Try.func57 rfl rfl ⟨rfl, rfl, rfl, trivial⟩ (fun W => ?_)
  refine at_seq ?_
  refine at_region [0] rfl ?_
  refine at_s T rfl ?_
  refine at_end ?_
  refine at_sub [(0, (.pointer (some ⟨b_f, 0, none⟩))), (1, (.int .i64 cell)), (2, (.int .i64 id))] ⟨rfl, rfl, rfl, trivial⟩ ?_
  refine at_then ?_
  refine at_seq ?_
  refine at_seq ?_
  refine at_region [0, 1, 2, 3, 4, 5, 6, 7, 8, 9, 10, 11] rfl ?_
  iterate 2 refine at_s T rfl ?_
  obtain ⟨v1, V1, H⟩ := bind_e H
  refine at_cons (at_c (As := [[(b_f, Obj.cells #[(.slice a_f_words (List.length f.words) n_f_words), (.int .i64 f.count)] 104 (0, 0))], H_f_words]) (R := [F]) (B := fun _ => [[(b_f, Obj.cells #[(.slice a_f_words (List.length f.words) n_f_words), (.int .i64 f.count)] 104 (0, 0))], H_f_words]) [0, 0] rfl rfl rfl rfl has75 rfl rfl (floor_Floor_free.c f cell v1 _ V1 s_f_words) (fun _ => ?_))
  iterate 2 refine at_s T rfl ?_
  refine at_grp T [5, 6, 7] (s := 11) (c := (!v1)) [(0, (.pointer (some ⟨b_f, 0, none⟩))), (1, (.int .i64 cell)), (2, (.int .i64 id)), (14, (.bool ((!v1) || (decide (id < 0)))))] rfl rfl rfl (fun c2 => ⟨rfl, rfl, rfl, (by rw [c2]; rfl), trivial⟩) (fun c2 => ⟨rfl, rfl, rfl, (by rw [c2]; rfl), trivial⟩) ?_
  refine at_s T rfl ?_
  refine at_grp T [9, 10, 11] (s := 15) (c := ((!v1) || (decide (id < 0)))) [(0, (.pointer (some ⟨b_f, 0, none⟩))), (1, (.int .i64 cell)), (2, (.int .i64 id)), (18, (.bool (((!v1) || (decide (id < 0))) || (decide (id ≥ 4294967295)))))] rfl rfl rfl (fun c3 => ⟨rfl, rfl, rfl, (by rw [c3]; rfl), trivial⟩) (fun c3 => ⟨rfl, rfl, rfl, (by rw [c3]; rfl), trivial⟩) ?_
  refine at_end ?_
  refine at_sub [(0, (.pointer (some ⟨b_f, 0, none⟩))), (1, (.int .i64 cell)), (2, (.int .i64 id)), (18, (.bool (((!v1) || (decide (id < 0))) || (decide (id ≥ 4294967295)))))] ⟨rfl, rfl, rfl, rfl, trivial⟩ ?_
  refine at_then ?_
  refine at_cond rfl (fun c4 => ?_) (fun c4 => ?_)
  · replace H := if_t c4 H
    refine at_seq ?_
    refine at_region [0] rfl ?_
    refine at_s T rfl ?_
    refine at_end ?_
    refine at_sub [(6, (.bool false))] ⟨rfl, trivial⟩ ?_
    refine at_then ?_
    refine at_ret ?_
    refine at_rt ?_
    obtain rfl := Option.some.inj H
    exact at_post (T := T) rfl (.tmp rfl .nil) (fun w o => ⟨⟨(_, _), ⟨a_f_words, n_f_words, H_f_words, s_f_words, rfl, rfl⟩⟩, rfl, own_to [1, 1, 0] rfl o⟩)
  · replace H := if_f (bf c4) H
    refine at_skip ?_
    refine at_then ?_
    refine at_seq ?_
    refine at_region [0, 1, 2, 3, 4, 5, 6, 7, 8, 9] rfl ?_
    iterate 3 refine at_s T rfl ?_
    refine at_v rfl (g_load T rfl rfl rfl rfl (in_var (j := 1) rfl rfl)) ?_
    iterate 4 refine at_s T rfl ?_
    obtain ⟨c5, H⟩ := chk_e H
    obtain ⟨q3, o3, e3⟩ := s_f_words.r.addr c5.1 c5.2
    refine at_v rfl (g_index T rfl rfl rfl rfl rfl e3 c5.1 c5.2) ?_
    refine at_cons (at_se (k := (Fl.int .u32)) T 2 0 (wu32 (w64 (id + 1))) rfl rfl rfl rfl rfl rfl s_f_words e3 c5 rfl rfl rfl (fun H4 s4 => ?_))
    refine at_to [(0, (.pointer (some ⟨b_f, 0, none⟩)))] [0, 0, 0] [F, [(b_f, Obj.cells #[(.slice a_f_words (List.length (List.set f.words (Int.toNat cell) (wu32 (w64 (id + 1))))) n_f_words), (.int .i64 f.count)] 104 (0, 0))], H4] ⟨rfl, trivial⟩ (by first | rfl | (simp only [List.length_set]; rfl)) ?_
    refine at_end ?_
    refine at_sub [(0, (.pointer (some ⟨b_f, 0, none⟩)))] ⟨rfl, trivial⟩ ?_
    refine at_then ?_
    refine at_seq ?_
    refine at_region [0, 1, 2, 3, 4, 5, 6, 7] rfl ?_
    iterate 3 refine at_s T rfl ?_
    refine at_v rfl (g_load T rfl rfl rfl rfl (in_var (j := 1) rfl rfl)) ?_
    iterate 3 refine at_s T rfl ?_
    refine at_cons (at_st T 1 [(.slice a_f_words (List.length (List.set f.words (Int.toNat cell) (wu32 (w64 (id + 1))))) n_f_words), (.int .i64 (w64 (f.count + 1)))] rfl rfl rfl rfl rfl rfl rfl rfl rfl rfl ?_)
    refine at_end ?_
    refine at_sub [] trivial ?_
    refine at_then ?_
    refine at_seq ?_
    refine at_region [0] rfl ?_
    refine at_s T rfl ?_
    refine at_end ?_
    refine at_sub [(6, (.bool true))] ⟨rfl, trivial⟩ ?_
    refine at_then ?_
    refine at_ret ?_
    obtain rfl := Option.some.inj H
    exact at_post (T := T) rfl (.tmp rfl .nil) (fun w o => ⟨⟨(_, _), ⟨a_f_words, n_f_words, H4, s4, rfl, rfl⟩⟩, rfl, own_to [1, 1, 0] rfl o⟩)

/-! ### (*herdsman/floor.Floor).Take: function 79 -/
def floor_Floor_Take.f (f : floor_Floor) (cell : Int) : Option (Int × floor_Floor) := (floor_Floor_Who.f f cell).bind fun v1 => if (v1 != (-1)) = true then (if (0 ≤ cell ∧ cell < (List.length f.words : Int)) then (some (v1, (floor_Floor.mk (List.set f.words (Int.toNat cell) 0) (w64 (f.count - 1))))) else none) else (some (v1, f))
def floor_Floor_Take.R (b_f : Nat) (r : (Int × floor_Floor)) (u : Value) (G : List Hp) : Prop := ∃ (a0 : Option Addr) (n0 : Nat) (H0 : Hp), SliceO (Fl.int .u32) 74 r.2.words a0 n0 H0 ∧ u = (.int .i64 r.1) ∧ G = [[(b_f, Obj.cells #[(.slice a0 (List.length r.2.words) n0), (.int .i64 r.2.count)] 104 (0, 0))], H0]
set_option maxHeartbeats 4000000 in
theorem floor_Floor_Take.c {b_f : Nat} {a_f_words : Option Addr} {n_f_words : Nat} {H_f_words : Hp} (f : floor_Floor) (cell : Int) (r : (Int × floor_Floor)) (F : Hp) (H : floor_Floor_Take.f f cell = some r) (s_f_words : SliceO (Fl.int .u32) 74 f.words a_f_words n_f_words H_f_words) :
    CallsL Try.prog 79 [(.pointer (some ⟨b_f, 0, none⟩)), (.int .i64 cell)] [[(b_f, Obj.cells #[(.slice a_f_words (List.length f.words) n_f_words), (.int .i64 f.count)] 104 (0, 0))], H_f_words, F] (fun p : { p : Value × List Hp // floor_Floor_Take.R b_f r p.1 p.2 } => p.1.1) (fun p => (p.1.2 ++ []) ++ [F]) := by
  unfold floor_Floor_Take.f at H
  refine calls_atL [(0, (.pointer (some ⟨b_f, 0, none⟩))), (1, (.int .i64 cell))] Try.func79 rfl rfl ⟨rfl, rfl, trivial⟩ (fun W => ?_)
  refine at_seq ?_
  refine at_region [0] rfl ?_
  refine at_s T rfl ?_
  refine at_end ?_
  refine at_sub [(0, (.pointer (some ⟨b_f, 0, none⟩))), (1, (.int .i64 cell))] ⟨rfl, rfl, trivial⟩ ?_
  refine at_then ?_
  refine at_seq ?_
  refine at_region [0, 1, 2, 3] rfl ?_
  iterate 2 refine at_s T rfl ?_
  obtain ⟨v1, V1, H⟩ := bind_e H
  refine at_cons (at_c (As := [[(b_f, Obj.cells #[(.slice a_f_words (List.length f.words) n_f_words), (.int .i64 f.count)] 104 (0, 0))], H_f_words]) (R := [F]) (B := fun _ => [[(b_f, Obj.cells #[(.slice a_f_words (List.length f.words) n_f_words), (.int .i64 f.count)] 104 (0, 0))], H_f_words]) [0, 0] rfl rfl rfl rfl has58 rfl rfl (floor_Floor_Who.c f cell v1 _ V1 s_f_words) (fun _ => ?_))
  refine at_s T rfl ?_
  refine at_end ?_
  refine at_sub [(0, (.pointer (some ⟨b_f, 0, none⟩))), (1, (.int .i64 cell)), (5, (.int .i64 v1))] ⟨rfl, rfl, rfl, trivial⟩ ?_
  refine at_then ?_
  refine at_seq ?_
  refine at_seq ?_
  refine at_region [0, 1] rfl ?_
  iterate 2 refine at_s T rfl ?_
  refine at_end ?_
  refine at_sub [(0, (.pointer (some ⟨b_f, 0, none⟩))), (1, (.int .i64 cell)), (5, (.int .i64 v1)), (10, (.bool (v1 != (-1))))] ⟨rfl, rfl, rfl, rfl, trivial⟩ ?_
  refine at_then ?_
  refine at_cond rfl (fun c2 => ?_) (fun c2 => ?_)
  · replace H := if_t c2 H
    refine at_seq ?_
    refine at_region [0, 1, 2, 3, 4, 5, 6] rfl ?_
    iterate 3 refine at_s T rfl ?_
    refine at_v rfl (g_load T rfl rfl rfl rfl (in_var (j := 1) rfl rfl)) ?_
    refine at_s T rfl ?_
    obtain ⟨c3, H⟩ := chk_e H
    obtain ⟨q3, o3, e3⟩ := s_f_words.r.addr c3.1 c3.2
    refine at_v rfl (g_index T rfl rfl rfl rfl rfl e3 c3.1 c3.2) ?_
    refine at_cons (at_se (k := (Fl.int .u32)) T 2 0 0 rfl rfl rfl rfl rfl rfl s_f_words e3 c3 rfl rfl rfl (fun H4 s4 => ?_))
    refine at_to [(0, (.pointer (some ⟨b_f, 0, none⟩))), (5, (.int .i64 v1))] [0, 0, 0] [F, [(b_f, Obj.cells #[(.slice a_f_words (List.length (List.set f.words (Int.toNat cell) 0)) n_f_words), (.int .i64 f.count)] 104 (0, 0))], H4] ⟨rfl, rfl, trivial⟩ (by first | rfl | (simp only [List.length_set]; rfl)) ?_
    refine at_end ?_
    refine at_sub [(0, (.pointer (some ⟨b_f, 0, none⟩))), (5, (.int .i64 v1))] ⟨rfl, rfl, trivial⟩ ?_
    refine at_then ?_
    refine at_region [0, 1, 2, 3, 4, 5, 6, 7] rfl ?_
    iterate 3 refine at_s T rfl ?_
    refine at_v rfl (g_load T rfl rfl rfl rfl (in_var (j := 1) rfl rfl)) ?_
    iterate 3 refine at_s T rfl ?_
    refine at_cons (at_st T 1 [(.slice a_f_words (List.length (List.set f.words (Int.toNat cell) 0)) n_f_words), (.int .i64 (w64 (f.count - 1)))] rfl rfl rfl rfl rfl rfl rfl rfl rfl rfl ?_)
    refine at_end ?_
    refine at_sub [(5, (.int .i64 v1))] ⟨rfl, trivial⟩ ?_
    refine at_then ?_
    refine at_seq ?_
    refine at_region [0, 1] rfl ?_
    iterate 2 refine at_s T rfl ?_
    refine at_end ?_
    refine at_sub [(4, (.int .i64 v1))] ⟨rfl, trivial⟩ ?_
    refine at_then ?_
    refine at_ret ?_
    obtain rfl := Option.some.inj H
    exact at_post (T := T) rfl (.tmp rfl .nil) (fun w o => ⟨⟨(_, _), ⟨a_f_words, n_f_words, H4, s4, rfl, rfl⟩⟩, rfl, own_to [1, 1, 0] rfl o⟩)
  · replace H := if_f (bf c2) H
    refine at_skip ?_
    refine at_then ?_
    refine at_seq ?_
    refine at_region [0, 1] rfl ?_
    iterate 2 refine at_s T rfl ?_
    refine at_end ?_
    refine at_sub [(4, (.int .i64 v1))] ⟨rfl, trivial⟩ ?_
    refine at_then ?_
    refine at_ret ?_
    obtain rfl := Option.some.inj H
    exact at_post (T := T) rfl (.tmp rfl .nil) (fun w o => ⟨⟨(_, _), ⟨a_f_words, n_f_words, H_f_words, s_f_words, rfl, rfl⟩⟩, rfl, own_to [1, 1, 0] rfl o⟩)

/-! ### (*herdsman/floor.Floor).Shift: function 64 -/
def floor_Floor_Shift.f (f : floor_Floor) (p1 : Int) (p2 : Int) : Option (Bool × floor_Floor) := ((floor_Floor_Who.f f p1).bind fun v3 => if (v3 == (-1)) = true then (some true) else ((floor_Floor_free.f f p2).bind fun v4 => some (!v4))).bind fun x1 => if x1 = true then (some (false, f)) else ((floor_Floor_Take.f f p1).bind fun v5 => (floor_Floor_Put.f v5.2 p2 v5.1).bind fun v6 => some (v6.1, v6.2))
def floor_Floor_Shift.R (b_f : Nat) (r : (Bool × floor_Floor)) (u : Value) (G : List Hp) : Prop := ∃ (a0 : Option Addr) (n0 : Nat) (H0 : Hp), SliceO (Fl.int .u32) 74 r.2.words a0 n0 H0 ∧ u = (.bool r.1) ∧ G = [[(b_f, Obj.cells #[(.slice a0 (List.length r.2.words) n0), (.int .i64 r.2.count)] 104 (0, 0))], H0]
set_option maxHeartbeats 4000000 in
theorem floor_Floor_Shift.c {b_f : Nat} {a_f_words : Option Addr} {n_f_words : Nat} {H_f_words : Hp} (f : floor_Floor) (p1 : Int) (p2 : Int) (r : (Bool × floor_Floor)) (F : Hp) (H : floor_Floor_Shift.f f p1 p2 = some r) (s_f_words : SliceO (Fl.int .u32) 74 f.words a_f_words n_f_words H_f_words) :
    CallsL Try.prog 64 [(.pointer (some ⟨b_f, 0, none⟩)), (.int .i64 p1), (.int .i64 p2)] [[(b_f, Obj.cells #[(.slice a_f_words (List.length f.words) n_f_words), (.int .i64 f.count)] 104 (0, 0))], H_f_words, F] (fun p : { p : Value × List Hp // floor_Floor_Shift.R b_f r p.1 p.2 } => p.1.1) (fun p => (p.1.2 ++ []) ++ [F]) := by
  unfold floor_Floor_Shift.f at H
  refine calls_atL [(0, (.pointer (some ⟨b_f, 0, none⟩))), (1, (.int .i64 p1)), (2, (.int .i64 p2))] Try.func64 rfl rfl ⟨rfl, rfl, rfl, trivial⟩ (fun W => ?_)
  refine at_seq ?_
  refine at_region [0] rfl ?_
  refine at_s T rfl ?_
  refine at_end ?_
  refine at_sub [(0, (.pointer (some ⟨b_f, 0, none⟩))), (1, (.int .i64 p1)), (2, (.int .i64 p2))] ⟨rfl, rfl, rfl, trivial⟩ ?_
  refine at_then ?_
  refine at_seq ?_
  obtain ⟨z2, Z1, H⟩ := bind_e H
  refine at_seq_mid (σ := Bool) (fun x1 => x1 = z2) (fun x1 => [(0, (.pointer (some ⟨b_f, 0, none⟩))), (1, (.int .i64 p1)), (2, (.int .i64 p2)), (16, (.bool x1))]) (fun x1 => [F, [(b_f, Obj.cells #[(.slice a_f_words (List.length f.words) n_f_words), (.int .i64 f.count)] 104 (0, 0))], H_f_words]) ?_ ?_
  · refine at_region [0, 1, 2, 3, 4, 5, 6, 7, 8, 9] rfl ?_
    iterate 2 refine at_s T rfl ?_
    obtain ⟨v3, V2, Z1⟩ := bind_e Z1
    refine at_cons (at_c (As := [[(b_f, Obj.cells #[(.slice a_f_words (List.length f.words) n_f_words), (.int .i64 f.count)] 104 (0, 0))], H_f_words]) (R := [F]) (B := fun _ => [[(b_f, Obj.cells #[(.slice a_f_words (List.length f.words) n_f_words), (.int .i64 f.count)] 104 (0, 0))], H_f_words]) [0, 0] rfl rfl rfl rfl has58 rfl rfl (floor_Floor_Who.c f p1 v3 _ V2 s_f_words) (fun _ => ?_))
    iterate 2 refine at_s T rfl ?_
    refine at_case (s := 11) rfl (fun c3 => ?_) (fun c3 => ?_)
    · replace Z1 := if_t c3 Z1
      iterate 5 refine at_s T rfl ?_
      refine at_end ?_
      refine at_sub [(0, (.pointer (some ⟨b_f, 0, none⟩))), (1, (.int .i64 p1)), (2, (.int .i64 p2)), (16, (.bool true))] ⟨rfl, rfl, rfl, rfl, trivial⟩ ?_
      refine at_then ?_
      obtain rfl := Option.some.inj Z1
      exact at_mid true [0, 0, 0] rfl ⟨rfl, rfl, rfl, rfl, trivial⟩ rfl
    · replace Z1 := if_f (bf c3) Z1
      iterate 2 refine at_s T rfl ?_
      obtain ⟨v4, V4, Z1⟩ := bind_e Z1
      refine at_cons (at_c (As := [[(b_f, Obj.cells #[(.slice a_f_words (List.length f.words) n_f_words), (.int .i64 f.count)] 104 (0, 0))], H_f_words]) (R := [F]) (B := fun _ => [[(b_f, Obj.cells #[(.slice a_f_words (List.length f.words) n_f_words), (.int .i64 f.count)] 104 (0, 0))], H_f_words]) [1, 1] rfl rfl rfl rfl has75 rfl rfl (floor_Floor_free.c f p2 v4 _ V4 s_f_words) (fun _ => ?_))
      iterate 2 refine at_s T rfl ?_
      refine at_end ?_
      refine at_sub [(0, (.pointer (some ⟨b_f, 0, none⟩))), (1, (.int .i64 p1)), (2, (.int .i64 p2)), (16, (.bool (!v4)))] ⟨rfl, rfl, rfl, rfl, trivial⟩ ?_
      refine at_then ?_
      obtain rfl := Option.some.inj Z1
      exact at_mid (!v4) [0, 0, 0] rfl ⟨rfl, rfl, rfl, rfl, trivial⟩ rfl
  · rintro x1 rfl
    refine at_cond rfl (fun c5 => ?_) (fun c5 => ?_)
    · replace H := if_t c5 H
      refine at_seq ?_
      refine at_region [0] rfl ?_
      refine at_s T rfl ?_
      refine at_end ?_
      refine at_sub [(6, (.bool false))] ⟨rfl, trivial⟩ ?_
      refine at_then ?_
      refine at_ret ?_
      refine at_rt ?_
      obtain rfl := Option.some.inj H
      exact at_post (T := T) rfl (.tmp rfl .nil) (fun w o => ⟨⟨(_, _), ⟨a_f_words, n_f_words, H_f_words, s_f_words, rfl, rfl⟩⟩, rfl, own_to [1, 1, 0] rfl o⟩)
    · replace H := if_f (bf c5) H
      refine at_skip ?_
      refine at_then ?_
      refine at_seq ?_
      refine at_region [0, 1, 2, 3, 4, 5, 6] rfl ?_
      iterate 4 refine at_s T rfl ?_
      obtain ⟨v5, V6, H⟩ := bind_e H
      refine at_cons (at_cR (As := [[(b_f, Obj.cells #[(.slice a_f_words (List.length f.words) n_f_words), (.int .i64 f.count)] 104 (0, 0))], H_f_words]) (R := [F]) (floor_Floor_Take.R b_f v5) [] [1, 1] rfl rfl rfl rfl has79 rfl rfl (floor_Floor_Take.c f p1 v5 _ V6 s_f_words) ?_)
      rintro _ _ ⟨a3, n3, H3, s3, rfl, rfl⟩
      obtain ⟨v6, V7, H⟩ := bind_e H
      refine at_cons (at_cR (As := [[(b_f, Obj.cells #[(.slice a3 (List.length v5.2.words) n3), (.int .i64 v5.2.count)] 104 (0, 0))], H3]) (R := [F]) (floor_Floor_Put.R b_f v6) [] [1, 1] rfl rfl rfl rfl has57 rfl rfl (floor_Floor_Put.c v5.2 p2 v5.1 v6 _ V7 s3) ?_)
      rintro _ _ ⟨a4, n4, H4, s4, rfl, rfl⟩
      refine at_s T rfl ?_
      refine at_end ?_
      refine at_sub [(6, (.bool v6.1))] ⟨rfl, trivial⟩ ?_
      refine at_then ?_
      refine at_ret ?_
      obtain rfl := Option.some.inj H
      exact at_post (T := T) rfl (.tmp rfl .nil) (fun w o => ⟨⟨(_, _), ⟨a4, n4, H4, s4, rfl, rfl⟩⟩, rfl, own_to [1, 1, 0] rfl o⟩)

/-! ### (*herdsman/floor.Floor).Words: function 70 -/
def floor_Floor_Words.f (f : floor_Floor) : Option (List Int) := (slices_Clone_uint32_uint32.f f.words).bind fun v1 => some v1
def floor_Floor_Words.R (r : (List Int)) (u : Value) (G : List Hp) : Prop := ∃ (a0 : Option Addr) (n0 : Nat) (H0 : Hp), SliceO (Fl.int .u32) 74 r a0 n0 H0 ∧ u = (.slice a0 (List.length r) n0) ∧ G = [H0]
set_option maxHeartbeats 4000000 in
theorem floor_Floor_Words.c {b_f : Nat} {a_f_words : Option Addr} {n_f_words : Nat} {H_f_words : Hp} (f : floor_Floor) (r : (List Int)) (F : Hp) (H : floor_Floor_Words.f f = some r) (s_f_words : SliceO (Fl.int .u32) 74 f.words a_f_words n_f_words H_f_words) :
    CallsL Try.prog 70 [(.pointer (some ⟨b_f, 0, none⟩))] [[(b_f, Obj.cells #[(.slice a_f_words (List.length f.words) n_f_words), (.int .i64 f.count)] 104 (0, 0))], H_f_words, F] (fun p : { p : Value × List Hp // floor_Floor_Words.R r p.1 p.2 } => p.1.1) (fun p => (p.1.2 ++ [[(b_f, Obj.cells #[(.slice a_f_words (List.length f.words) n_f_words), (.int .i64 f.count)] 104 (0, 0))], H_f_words]) ++ [F]) := by
  unfold floor_Floor_Words.f at H
  refine calls_atL [(0, (.pointer (some ⟨b_f, 0, none⟩)))] Try.func70 rfl rfl ⟨rfl, trivial⟩ (fun W => ?_)
  refine at_seq ?_
  refine at_region [0] rfl ?_
  refine at_s T rfl ?_
  refine at_end ?_
  refine at_sub [(0, (.pointer (some ⟨b_f, 0, none⟩)))] ⟨rfl, trivial⟩ ?_
  refine at_then ?_
  refine at_seq ?_
  refine at_seq ?_
  refine at_region [0, 1] rfl ?_
  iterate 2 refine at_s T rfl ?_
  refine at_end ?_
  refine at_sub [(0, (.pointer (some ⟨b_f, 0, none⟩))), (4, (.bool false))] ⟨rfl, rfl, trivial⟩ ?_
  refine at_then ?_
  refine at_cond_f rfl ?_
  refine at_skip ?_
  refine at_then ?_
  refine at_seq ?_
  refine at_region [0, 1, 2, 3, 4, 5] rfl ?_
  iterate 3 refine at_s T rfl ?_
  refine at_v rfl (g_load T rfl rfl rfl rfl (in_var (j := 0) rfl rfl)) ?_
  obtain ⟨v1, V1, H⟩ := bind_e H
  refine at_cons (at_cR (slices_Clone_uint32_uint32.R v1) [] [] rfl rfl rfl rfl has84 rfl rfl (slices_Clone_uint32_uint32.c f.words v1 _ V1 (own_of s_f_words (j := 1) rfl) s_f_words.cap_le) ?_)
  rintro _ _ ⟨a3, n3, H3, s3, rfl, rfl⟩
  refine at_s T rfl ?_
  refine at_end ?_
  refine at_sub [(2, (.slice a3 (List.length v1) n3))] ⟨rfl, trivial⟩ ?_
  refine at_then ?_
  refine at_ret ?_
  obtain rfl := Option.some.inj H
  exact at_post (T := T) rfl (.tmp rfl .nil) (fun w o => ⟨⟨(_, _), ⟨a3, n3, H3, s3, rfl, rfl⟩⟩, rfl, own_to [3, 0, 0, 0] rfl o⟩)
end Go.Proofs.Ytkidcebfpengmaa
