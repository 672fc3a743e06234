import Derived.Test.YtfgenmohgfifaaaT
namespace Go.Proofs.Ytfgenmohgfifaaa
open Go.Hx
set_option maxRecDepth 100000
set_option linter.unusedVariables false
/-! ### herdsman/herdsmanref1.Bytes: function 16 -/
def ref1_Bytes.f (a : (List Int)) (b : (List Int)) : Option Bool := some (strEq a b)
set_option maxHeartbeats 4000000 in
theorem ref1_Bytes.c {a_a : Option Addr} {n_a : Nat} {a_b : Option Addr} {n_b : Nat} (a : (List Int)) (b : (List Int)) (r : Bool) (F : Hp) (H : ref1_Bytes.f a b = some r) (h_a : SliceR (Fl.int .u8) a a_a F) (c_a : List.length a ≤ n_a) (h_b : SliceR (Fl.int .u8) b a_b F) (c_b : List.length b ≤ n_b) :
    CallsL Try.prog 16 [(.slice a_a (List.length a) n_a), (.slice a_b (List.length b) n_b)] [F] (fun _ : Unit => (.bool r)) (fun _ => [F]) := by
  unfold ref1_Bytes.f at H
  refine calls_atL [(0, (.slice a_a (List.length a) n_a)), (1, (.slice a_b (List.length b) n_b))] Try.func16 rfl rfl ⟨rfl, rfl, trivial⟩ (fun W => ?_)
  refine at_seq ?_
  refine at_region [0] rfl ?_
  refine at_s T rfl ?_
  refine at_end ?_
  refine at_sub [(0, (.slice a_a (List.length a) n_a)), (1, (.slice a_b (List.length b) n_b))] ⟨rfl, rfl, trivial⟩ ?_
  refine at_then ?_
  refine at_seq ?_
  refine at_region [0, 1, 2, 3, 4, 5] rfl ?_
  refine at_s T rfl ?_
  refine at_v rfl (g_tostr T rfl rfl rfl rfl rfl (ro_of h_a (j := 0) rfl)) ?_
  refine at_s T rfl ?_
  refine at_v rfl (g_tostr T rfl rfl rfl rfl rfl (ro_of h_b (j := 0) rfl)) ?_
  refine at_v rfl (g_streq rfl rfl rfl) ?_
  refine at_s T rfl ?_
  refine at_end ?_
  refine at_sub [(4, (.bool (strEq a b)))] ⟨rfl, trivial⟩ ?_
  refine at_then ?_
  refine at_ret ?_
  obtain rfl := Option.some.inj H
  exact at_post (T := T) rfl (.tmp rfl .nil) (fun w o => ⟨(), rfl, own_to [0] rfl o⟩)

/-! ### herdsman/herdsmanref1.OwnTile: function 18 -/
def ref1_OwnTile.f (t : api_Tile) : Option api_Tile := if (List.length ([] : List Int) + List.length t.C ≤ 1099511627776) then (some (api_Tile.mk t.W t.H (([] : List Int) ++ t.C))) else none
def ref1_OwnTile.R (r : api_Tile) (u : Value) (G : List Hp) : Prop := ∃ (a0 : Option Addr) (n0 : Nat) (H0 : Hp), SliceO (Fl.int .u8) 5 r.C a0 n0 H0 ∧ u = (.agg #[(.int .i64 r.W), (.int .i64 r.H), (.slice a0 (List.length r.C) n0)]) ∧ G = [H0]
set_option maxHeartbeats 4000000 in
theorem ref1_OwnTile.c {a_t_C : Option Addr} {n_t_C : Nat} (t : api_Tile) (r : api_Tile) (F : Hp) (H : ref1_OwnTile.f t = some r) (h_t_C : SliceR (Fl.int .u8) t.C a_t_C F) (c_t_C : List.length t.C ≤ n_t_C) :
    CallsL Try.prog 18 [(.agg #[(.int .i64 t.W), (.int .i64 t.H), (.slice a_t_C (List.length t.C) n_t_C)])] [F] (fun p : { p : Value × List Hp // ref1_OwnTile.R r p.1 p.2 } => p.1.1) (fun p => (p.1.2 ++ []) ++ [F]) := by
  unfold ref1_OwnTile.f at H
  refine calls_atL [(0, (.agg #[(.int .i64 t.W), (.int .i64 t.H), (.slice a_t_C (List.length t.C) n_t_C)]))] Try.func18 rfl rfl ⟨rfl, trivial⟩ (fun W => ?_)
  refine at_seq ?_
  refine at_region [0, 1] rfl ?_
  refine at_cons (at_bx T [(.int .i64 t.W), (.int .i64 t.H), (.slice a_t_C (List.length t.C) n_t_C)] rfl rfl rfl rfl (fun b1 => ?_))
  refine at_cons (at_al T [(.int .i64 0), (.int .i64 0), (.slice none 0 0)] rfl rfl rfl rfl (fun b2 => ?_))
  refine at_end ?_
  refine at_sub [(1, (.pointer (some ⟨b1, 0, none⟩))), (2, (.pointer (some ⟨b2, 0, none⟩)))] ⟨rfl, rfl, trivial⟩ ?_
  refine at_then ?_
  refine at_seq ?_
  refine at_region [0, 1, 2, 3, 4, 5] rfl ?_
  refine at_cons (at_bs (k := (Fl.int .u8)) T ([] : List Int) rfl rfl rfl rfl rfl rfl rfl rfl rfl (fun a3 H3 s3 => ?_))
  refine at_s T rfl ?_
  refine at_v rfl (g_load T rfl rfl rfl rfl (in_var (j := 1) rfl rfl)) ?_
  obtain ⟨c1, H⟩ := chk_e H
  refine at_cons (at_ap (k := (Fl.int .u8)) (xs := ([] : List Int)) T (g := 3) rfl rfl rfl rfl rfl rfl rfl rfl rfl rfl s3 (ro_of h_t_C (j := 0) rfl) c1 rfl (fun a4 n4 H4 s4 => ?_))
  refine at_s T rfl ?_
  refine at_cons (at_st T 1 [(.int .i64 t.W), (.int .i64 t.H), (.slice a4 (List.length (([] : List Int) ++ t.C)) n4)] rfl rfl rfl rfl rfl rfl rfl rfl rfl rfl ?_)
  refine at_end ?_
  refine at_sub [(1, (.pointer (some ⟨b1, 0, none⟩))), (2, (.pointer (some ⟨b2, 0, none⟩)))] ⟨rfl, rfl, trivial⟩ ?_
  refine at_then ?_
  refine at_seq ?_
  refine at_region [0, 1] rfl ?_
  refine at_v rfl (g_loadA T (cs := [(.int .i64 t.W), (.int .i64 t.H), (.slice a4 (List.length (([] : List Int) ++ t.C)) n4)]) rfl rfl rfl rfl rfl rfl (in_varA (j := 1) rfl rfl)) ?_
  refine at_cons (at_st T 2 [(.int .i64 t.W), (.int .i64 t.H), (.slice a4 (List.length (([] : List Int) ++ t.C)) n4)] rfl rfl rfl rfl rfl rfl rfl rfl rfl rfl ?_)
  refine at_end ?_
  refine at_to [(2, (.pointer (some ⟨b2, 0, none⟩)))] [0, 1, 1] [F, [(b2, Obj.cells #[(.int .i64 t.W), (.int .i64 t.H), (.slice a4 (List.length (([] : List Int) ++ t.C)) n4)] 24 (0, 0))], H4] ⟨rfl, trivial⟩ rfl ?_
  refine at_then ?_
  refine at_ret ?_
  obtain rfl := Option.some.inj H
  exact at_post (T := T) rfl (.aggv (j := 1) [(.int .i64 t.W), (.int .i64 t.H), (.slice a4 (List.length (([] : List Int) ++ t.C)) n4)] rfl rfl rfl rfl rfl rfl rfl .nil) (fun w o => ⟨⟨(_, _), ⟨a4, n4, H4, s4, rfl, rfl⟩⟩, rfl, own_to [2, 0] rfl o⟩)

/-! ### herdsman/herdsmanref1.Within: function 17 -/
def ref1_Within.f (n : Int) (lo : Int) (hi : Int) : Option Int := if (¬ (w64 ((w64 (hi - lo)) + 1)) = 0) then (if (Int.tmod n (w64 ((w64 (hi - lo)) + 1))) < 0 then (some (w64 (lo + (w64 ((w64 ((w64 ((Int.tmod n (w64 ((w64 (hi - lo)) + 1))) + hi)) - lo)) + 1))))) else (some (w64 (lo + (Int.tmod n (w64 ((w64 (hi - lo)) + 1))))))) else none
set_option maxHeartbeats 4000000 in
theorem ref1_Within.c (n : Int) (lo : Int) (hi : Int) (r : Int) (F : Hp) (H : ref1_Within.f n lo hi = some r) :
    CallsL Try.prog 17 [(.int .i64 n), (.int .i64 lo), (.int .i64 hi)] [F] (fun _ : Unit => (.int .i64 r)) (fun _ => [F]) := by
  unfold ref1_Within.f at H
  refine calls_atL [(0, (.int .i64 n)), (1, (.int .i64 lo)), (2, (.int .i64 hi))] Try.func17 rfl rfl ⟨rfl, rfl, rfl, trivial⟩ (fun W => ?_)
  refine at_seq ?_
  refine at_region [0] rfl ?_
  refine at_s T rfl ?_
  refine at_end ?_
  refine at_sub [(0, (.int .i64 n)), (1, (.int .i64 lo)), (2, (.int .i64 hi))] ⟨rfl, rfl, rfl, trivial⟩ ?_
  refine at_then ?_
  refine at_seq ?_
  refine at_region [0, 1, 2, 3, 4, 5, 6] rfl ?_
  iterate 5 refine at_s T rfl ?_
  obtain ⟨c1, H⟩ := chk_e H
  refine at_v rfl (g_rem rfl rfl rfl c1) ?_
  refine at_s T rfl ?_
  refine at_end ?_
  refine at_sub [(0, (.int .i64 (Int.tmod n (w64 ((w64 (hi - lo)) + 1))))), (1, (.int .i64 lo)), (2, (.int .i64 hi))] ⟨rfl, rfl, rfl, trivial⟩ ?_
  refine at_then ?_
  refine at_seq ?_
  refine at_seq ?_
  refine at_region [0, 1] rfl ?_
  iterate 2 refine at_s T rfl ?_
  refine at_end ?_
  refine at_sub [(0, (.int .i64 (Int.tmod n (w64 ((w64 (hi - lo)) + 1))))), (1, (.int .i64 lo)), (2, (.int .i64 hi)), (14, (.bool (decide ((Int.tmod n (w64 ((w64 (hi - lo)) + 1))) < 0))))] ⟨rfl, rfl, rfl, rfl, trivial⟩ ?_
  refine at_then ?_
  refine at_cond rfl (fun c2 => ?_) (fun c2 => ?_)
  · replace H := if_t (of_decide_eq_true c2) H
    refine at_region [0, 1, 2, 3, 4, 5, 6] rfl ?_
    iterate 7 refine at_s T rfl ?_
    refine at_end ?_
    refine at_sub [(0, (.int .i64 (w64 ((w64 ((w64 ((Int.tmod n (w64 ((w64 (hi - lo)) + 1))) + hi)) - lo)) + 1)))), (1, (.int .i64 lo))] ⟨rfl, rfl, trivial⟩ ?_
    refine at_then ?_
    refine at_seq ?_
    refine at_region [0, 1, 2, 3] rfl ?_
    iterate 4 refine at_s T rfl ?_
    refine at_end ?_
    refine at_sub [(6, (.int .i64 (w64 (lo + (w64 ((w64 ((w64 ((Int.tmod n (w64 ((w64 (hi - lo)) + 1))) + hi)) - lo)) + 1))))))] ⟨rfl, trivial⟩ ?_
    refine at_then ?_
    refine at_ret ?_
    obtain rfl := Option.some.inj H
    exact at_post (T := T) rfl (.tmp rfl .nil) (fun w o => ⟨(), rfl, own_to [0] rfl o⟩)
  · replace H := if_f (of_decide_eq_false c2) H
    refine at_skip ?_
    refine at_then ?_
    refine at_seq ?_
    refine at_region [0, 1, 2, 3] rfl ?_
    iterate 4 refine at_s T rfl ?_
    refine at_end ?_
    refine at_sub [(6, (.int .i64 (w64 (lo + (Int.tmod n (w64 ((w64 (hi - lo)) + 1)))))))] ⟨rfl, trivial⟩ ?_
    refine at_then ?_
    refine at_ret ?_
    obtain rfl := Option.some.inj H
    exact at_post (T := T) rfl (.tmp rfl .nil) (fun w o => ⟨(), rfl, own_to [0] rfl o⟩)

/-! ### herdsman/herdsmanref1.Cost: function 50 -/
def ref1_Cost.f (x : Int) : Option Int := if ((Int.tmod x 8) == 7) = true then (some 255) else (if x < 160 then (some (wu8 (1 + (Int.tmod x 4)))) else (some x))
set_option maxHeartbeats 4000000 in
theorem ref1_Cost.c (x : Int) (r : Int) (F : Hp) (H : ref1_Cost.f x = some r) :
    CallsL Try.prog 50 [(.int .u8 x)] [F] (fun _ : Unit => (.int .u8 r)) (fun _ => [F]) := by
  unfold ref1_Cost.f at H
  refine calls_atL [(0, (.int .u8 x))] Try.func50 rfl rfl ⟨rfl, trivial⟩ (fun W => ?_)
  refine at_seq ?_
  refine at_region [0] rfl ?_
  refine at_s T rfl ?_
  refine at_end ?_
  refine at_sub [(0, (.int .u8 x))] ⟨rfl, trivial⟩ ?_
  refine at_then ?_
  refine at_seq ?_
  refine at_seq ?_
  refine at_region [0, 1, 2] rfl ?_
  iterate 3 refine at_s T rfl ?_
  refine at_end ?_
  refine at_sub [(0, (.int .u8 x)), (5, (.bool ((Int.tmod x 8) == 7)))] ⟨rfl, rfl, trivial⟩ ?_
  refine at_then ?_
  refine at_cond rfl (fun c1 => ?_) (fun c1 => ?_)
  · replace H := if_t c1 H
    refine at_seq ?_
    refine at_region [0] rfl ?_
    refine at_s T rfl ?_
    refine at_end ?_
    refine at_sub [(2, (.int .u8 255))] ⟨rfl, trivial⟩ ?_
    refine at_then ?_
    refine at_ret ?_
    refine at_rt ?_
    obtain rfl := Option.some.inj H
    exact at_post (T := T) rfl (.tmp rfl .nil) (fun w o => ⟨(), rfl, own_to [0] rfl o⟩)
  · replace H := if_f (bf c1) H
    refine at_skip ?_
    refine at_then ?_
    refine at_seq ?_
    refine at_seq ?_
    refine at_region [0, 1] rfl ?_
    iterate 2 refine at_s T rfl ?_
    refine at_end ?_
    refine at_sub [(0, (.int .u8 x)), (7, (.bool (decide (x < 160))))] ⟨rfl, rfl, trivial⟩ ?_
    refine at_then ?_
    refine at_cond rfl (fun c2 => ?_) (fun c2 => ?_)
    · replace H := if_t (of_decide_eq_true c2) H
      refine at_seq ?_
      refine at_region [0, 1, 2, 3] rfl ?_
      iterate 4 refine at_s T rfl ?_
      refine at_end ?_
      refine at_sub [(2, (.int .u8 (wu8 (1 + (Int.tmod x 4)))))] ⟨rfl, trivial⟩ ?_
      refine at_then ?_
      refine at_ret ?_
      refine at_rt ?_
      obtain rfl := Option.some.inj H
      exact at_post (T := T) rfl (.tmp rfl .nil) (fun w o => ⟨(), rfl, own_to [0] rfl o⟩)
    · replace H := if_f (of_decide_eq_false c2) H
      refine at_skip ?_
      refine at_then ?_
      refine at_seq ?_
      refine at_region [0, 1] rfl ?_
      iterate 2 refine at_s T rfl ?_
      refine at_end ?_
      refine at_sub [(2, (.int .u8 x))] ⟨rfl, trivial⟩ ?_
      refine at_then ?_
      refine at_ret ?_
      obtain rfl := Option.some.inj H
      exact at_post (T := T) rfl (.tmp rfl .nil) (fun w o => ⟨(), rfl, own_to [0] rfl o⟩)

/-! ### herdsman/herdsmanref1.MadeTile: function 43 -/
def ref1_MadeTile.l0 : Nat → (List Int) → Int → Int → List Int → Int → Option api_Tile
  | 0, _, _, _, _, _ => none
  | k7 + 1, c, v1, v2, x5, x6 => if x6 < (w64 (v1 * v2)) then (if (List.length c : Int) > 0 then (if (¬ (List.length c : Int) = 0) then (if (¬ (List.length c : Int) = 0) then (if (0 ≤ (Int.tmod (w64 (x6 + (w64 ((w64 (Int.tdiv x6 (List.length c : Int))) * 5)))) (List.length c : Int)) ∧ (Int.tmod (w64 (x6 + (w64 ((w64 (Int.tdiv x6 (List.length c : Int))) * 5)))) (List.length c : Int)) < (List.length c : Int)) then ((ref1_Cost.f (rd c (Int.tmod (w64 (x6 + (w64 ((w64 (Int.tdiv x6 (List.length c : Int))) * 5)))) (List.length c : Int)))).bind fun v8 => if (List.length x5 + 1 ≤ 1099511627776) then (ref1_MadeTile.l0 k7 c v1 v2 (x5 ++ [v8]) (w64 (x6 + 1))) else none) else none) else none) else none) else ((ref1_Cost.f 1).bind fun v9 => if (List.length x5 + 1 ≤ 1099511627776) then (ref1_MadeTile.l0 k7 c v1 v2 (x5 ++ [v9]) (w64 (x6 + 1))) else none)) else (some (api_Tile.mk v1 v2 x5))
def ref1_MadeTile.f (w : Int) (h : Int) (c : (List Int)) : Option api_Tile := (ref1_Within.f w 1 16).bind fun v1 => (ref1_Within.f h 1 16).bind fun v2 => ref1_MadeTile.l0 fuel c v1 v2 [] 0
def ref1_MadeTile.R (r : api_Tile) (u : Value) (G : List Hp) : Prop := ∃ (a0 : Option Addr) (n0 : Nat) (H0 : Hp), SliceO (Fl.int .u8) 5 r.C a0 n0 H0 ∧ u = (.agg #[(.int .i64 r.W), (.int .i64 r.H), (.slice a0 (List.length r.C) n0)]) ∧ G = [H0]
set_option maxHeartbeats 4000000 in
theorem ref1_MadeTile.c {a_c : Option Addr} {n_c : Nat} (w : Int) (h : Int) (c : (List Int)) (r : api_Tile) (F : Hp) (H : ref1_MadeTile.f w h c = some r) (h_c : SliceR (Fl.int .u8) c a_c F) (c_c : List.length c ≤ n_c) :
    CallsL Try.prog 43 [(.int .i64 w), (.int .i64 h), (.slice a_c (List.length c) n_c)] [F] (fun p : { p : Value × List Hp // ref1_MadeTile.R r p.1 p.2 } => p.1.1) (fun p => (p.1.2 ++ []) ++ [F]) := by
  unfold ref1_MadeTile.f at H
  refine calls_atL [(0, (.int .i64 w)), (1, (.int .i64 h)), (2, (.slice a_c (List.length c) n_c))] Try.func43 rfl rfl ⟨rfl, rfl, rfl, trivial⟩ (fun W => ?_)
  refine at_seq ?_
  refine at_region [0] rfl ?_
  refine at_cons (at_al T [(.int .i64 0), (.int .i64 0), (.slice none 0 0)] rfl rfl rfl rfl (fun b1 => ?_))
  refine at_end ?_
  refine at_sub [(0, (.int .i64 w)), (1, (.int .i64 h)), (2, (.slice a_c (List.length c) n_c)), (6, (.pointer (some ⟨b1, 0, none⟩)))] ⟨rfl, rfl, rfl, rfl, trivial⟩ ?_
  refine at_then ?_
  refine at_seq ?_
  refine at_region [0, 1, 2, 3, 4, 5, 6] rfl ?_
  refine at_s T rfl ?_
  obtain ⟨v1, V1, H⟩ := bind_e H
  refine at_cons (at_c (B := fun _ => []) [] rfl rfl rfl rfl has17 rfl rfl (ref1_Within.c w 1 16 v1 _ V1) (fun _ => ?_))
  refine at_s T rfl ?_
  obtain ⟨v2, V2, H⟩ := bind_e H
  refine at_cons (at_c (B := fun _ => []) [] rfl rfl rfl rfl has17 rfl rfl (ref1_Within.c h 1 16 v2 _ V2) (fun _ => ?_))
  refine at_s T rfl ?_
  refine at_cons (at_al T [(.int .i64 0), (.int .i64 0), (.slice none 0 0)] rfl rfl rfl rfl (fun b2 => ?_))
  refine at_cons (at_st T 2 [(.int .i64 v1), (.int .i64 v2), (.slice none 0 0)] rfl rfl rfl rfl rfl rfl rfl rfl rfl rfl ?_)
  refine at_end ?_
  refine at_sub [(2, (.slice a_c (List.length c) n_c)), (6, (.pointer (some ⟨b1, 0, none⟩))), (7, (.pointer (some ⟨b2, 0, none⟩)))] ⟨rfl, rfl, rfl, trivial⟩ ?_
  refine at_then ?_
  refine at_seq ?_
  refine at_seq ?_
  refine at_region [0] rfl ?_
  refine at_s T rfl ?_
  refine at_end ?_
  refine at_sub [(2, (.slice a_c (List.length c) n_c)), (6, (.pointer (some ⟨b1, 0, none⟩))), (7, (.pointer (some ⟨b2, 0, none⟩))), (8, (.int .i64 0))] ⟨rfl, rfl, rfl, rfl, trivial⟩ ?_
  refine at_then ?_
  refine at_block ?_
  refine at_addnil ?_
  refine at_loopL (σ := Nat × List Int × Int × Option Addr × Nat × Hp) (fun ⟨k7, x5, x6, a4, n4, H4⟩ => ref1_MadeTile.l0 k7 c v1 v2 x5 x6 = some r ∧ SliceO (Fl.int .u8) 5 x5 a4 n4 H4) (fun ⟨k7, x5, x6, a4, n4, H4⟩ => [(2, (.slice a_c (List.length c) n_c)), (6, (.pointer (some ⟨b1, 0, none⟩))), (7, (.pointer (some ⟨b2, 0, none⟩))), (8, (.int .i64 x6))]) (fun ⟨k7, x5, x6, a4, n4, H4⟩ => [F, [(b1, Obj.cells #[(.int .i64 0), (.int .i64 0), (.slice none 0 0)] 24 (0, 0))], [(b2, Obj.cells #[(.int .i64 v1), (.int .i64 v2), (.slice a4 (List.length x5) n4)] 24 (0, 0))], H4]) (fun s => s.1) (fuel, [], 0, none, 0, []) [0, 0, 0, 0] ⟨H, SliceO.nil⟩ ⟨rfl, rfl, rfl, rfl, trivial⟩ rfl ?_
  rintro ⟨k7, x5, x6, a4, n4, H4⟩ ⟨Z3, s4⟩
  replace Z3 : ref1_MadeTile.l0 k7 c v1 v2 x5 x6 = some r := Z3
  rcases k7 with _ | k7
  · rw [ref1_MadeTile.l0] at Z3; cases Z3
  · rw [ref1_MadeTile.l0] at Z3
    refine at_seq ?_
    refine at_seq ?_
    refine at_region [0, 1, 2, 3, 4, 5, 6] rfl ?_
    iterate 2 refine at_s T rfl ?_
    refine at_v rfl (g_load T rfl rfl rfl rfl (in_var (j := 2) rfl rfl)) ?_
    refine at_s T rfl ?_
    refine at_v rfl (g_load T rfl rfl rfl rfl (in_var (j := 2) rfl rfl)) ?_
    iterate 2 refine at_s T rfl ?_
    refine at_end ?_
    refine at_sub [(2, (.slice a_c (List.length c) n_c)), (6, (.pointer (some ⟨b1, 0, none⟩))), (7, (.pointer (some ⟨b2, 0, none⟩))), (8, (.int .i64 x6)), (22, (.bool (decide (x6 < (w64 (v1 * v2))))))] ⟨rfl, rfl, rfl, rfl, rfl, trivial⟩ ?_
    refine at_then ?_
    refine at_cond rfl (fun c4 => ?_) (fun c4 => ?_)
    · replace Z3 := if_t (of_decide_eq_true c4) Z3
      refine at_skip ?_
      refine at_then ?_
      refine at_seq ?_
      refine at_block ?_
      refine at_seq ?_
      refine at_region [0] rfl ?_
      refine at_s T rfl ?_
      refine at_end ?_
      refine at_sub [(2, (.slice a_c (List.length c) n_c)), (6, (.pointer (some ⟨b1, 0, none⟩))), (7, (.pointer (some ⟨b2, 0, none⟩))), (8, (.int .i64 x6)), (9, (.int .u8 1))] ⟨rfl, rfl, rfl, rfl, rfl, trivial⟩ ?_
      refine at_then ?_
      refine at_seq ?_
      refine at_seq ?_
      refine at_region [0, 1, 2] rfl ?_
      iterate 3 refine at_s T rfl ?_
      refine at_end ?_
      refine at_sub [(2, (.slice a_c (List.length c) n_c)), (6, (.pointer (some ⟨b1, 0, none⟩))), (7, (.pointer (some ⟨b2, 0, none⟩))), (8, (.int .i64 x6)), (9, (.int .u8 1)), (10, (.int .i64 (List.length c : Int)))] ⟨rfl, rfl, rfl, rfl, rfl, rfl, trivial⟩ ?_
      refine at_then ?_
      refine at_seq ?_
      refine at_region [0, 1] rfl ?_
      iterate 2 refine at_s T rfl ?_
      refine at_end ?_
      refine at_sub [(2, (.slice a_c (List.length c) n_c)), (6, (.pointer (some ⟨b1, 0, none⟩))), (7, (.pointer (some ⟨b2, 0, none⟩))), (8, (.int .i64 x6)), (9, (.int .u8 1)), (10, (.int .i64 (List.length c : Int))), (28, (.bool (decide ((List.length c : Int) > 0))))] ⟨rfl, rfl, rfl, rfl, rfl, rfl, rfl, trivial⟩ ?_
      refine at_then ?_
      refine at_cond rfl (fun c5 => ?_) (fun c5 => ?_)
      · replace Z3 := if_t (of_decide_eq_true c5) Z3
        refine at_region [0, 1, 2, 3, 4, 5, 6, 7, 8, 9, 10, 11] rfl ?_
        iterate 4 refine at_s T rfl ?_
        obtain ⟨c6, Z3⟩ := chk_e Z3
        refine at_v rfl (g_quo rfl rfl rfl c6) ?_
        iterate 3 refine at_s T rfl ?_
        obtain ⟨c7, Z3⟩ := chk_e Z3
        refine at_v rfl (g_rem rfl rfl rfl c7) ?_
        obtain ⟨c8, Z3⟩ := chk_e Z3
        obtain ⟨q5, o5, e5⟩ := h_c.addr c8.1 c8.2
        refine at_v rfl (g_index T rfl rfl rfl rfl rfl e5 c8.1 c8.2) ?_
        refine at_v rfl (g_load T rfl rfl rfl rfl (in_elem1 (k := (Fl.int .u8)) (ro_of h_c (j := 0) rfl) e5 c8 0 rfl)) ?_
        refine at_s T rfl ?_
        refine at_end ?_
        refine at_sub [(2, (.slice a_c (List.length c) n_c)), (6, (.pointer (some ⟨b1, 0, none⟩))), (7, (.pointer (some ⟨b2, 0, none⟩))), (8, (.int .i64 x6)), (9, (.int .u8 (rd c (Int.tmod (w64 (x6 + (w64 ((w64 (Int.tdiv x6 (List.length c : Int))) * 5)))) (List.length c : Int)))))] ⟨rfl, rfl, rfl, rfl, rfl, trivial⟩ ?_
        refine at_then ?_
        refine at_region_m [[], [0], [], [2], [2, 3], [0, 1, 2, 3, 4], [0, 1, 2, 3, 4, 5], [0, 1, 2, 3, 4, 5, 6]] [5, 7] [F, [(b1, Obj.cells #[(.int .i64 0), (.int .i64 0), (.slice none 0 0)] 24 (0, 0))], [(b2, Obj.cells #[(.int .i64 v1), (.int .i64 v2), (.slice a4 (List.length x5) n4)] 24 (0, 0))], H4] mix (by kernel_rfl) (by repeat first | exact pf_body | refine pf_then ?_ | refine pf_block ?_) (fun hg pf => ?_)
        refine atm_s T 0 hg pf (by kernel_rfl) (still_o [0, 0, 0, 0] rfl) rfl ?_
        refine atm_v 1 hg pf (by kernel_rfl) (still_o [0, 0, 0, 0] rfl) rfl rfl (g_load T rfl rfl rfl rfl (in_var (j := 2) rfl rfl)) ?_
        refine atm_s T 2 hg pf (by kernel_rfl) (still_o [0, 0, 0, 0] rfl) rfl ?_
        refine atm_one 3 (by kernel_rfl) ?_
        obtain ⟨v8, V9, Z3⟩ := bind_e Z3
        refine at_c (B := fun _ => []) [] rfl rfl rfl rfl has50 rfl rfl (ref1_Cost.c (rd c (Int.tmod (w64 (x6 + (w64 ((w64 (Int.tdiv x6 (List.length c : Int))) * 5)))) (List.length c : Int))) v8 _ V9) (fun _ => ?_)
        refine atm_next (still_o [0, 0, 0, 0] rfl) ?_
        refine atm_one 4 (by kernel_rfl) ?_
        refine at_bs (k := (Fl.int .u8)) T [v8] rfl rfl rfl rfl rfl rfl rfl rfl rfl (fun a6 H6 s6 => ?_)
        refine atm_next (still_o [0, 0, 0, 0] rfl) ?_
        refine atm_one 5 (by kernel_rfl) ?_
        obtain ⟨c10, Z3⟩ := chk_e Z3
        refine at_ap (k := (Fl.int .u8)) (xs := x5) T (g := 3) rfl rfl rfl rfl rfl rfl rfl rfl rfl rfl s4 (own_of s6 (j := 4) rfl) c10 rfl (fun a7 n7 H7 s7 => ?_)
        refine atm_next (still_l (by kernel_rfl)) ?_
        refine atm_s T 6 hg pf (by kernel_rfl) (still_l (by kernel_rfl)) rfl ?_
        refine atm_one 7 (by kernel_rfl) ?_
        refine at_st T 2 [(.int .i64 v1), (.int .i64 v2), (.slice a7 (List.length (x5 ++ [v8])) n7)] rfl rfl rfl rfl rfl rfl rfl rfl rfl rfl ?_
        refine atm_next (still_l (by kernel_rfl)) ?_
        refine atm_end (by kernel_rfl) ?_
        refine at_to [(2, (.slice a_c (List.length c) n_c)), (6, (.pointer (some ⟨b1, 0, none⟩))), (7, (.pointer (some ⟨b2, 0, none⟩))), (8, (.int .i64 x6))] [0, 0, 0, 0] [F, [(b1, Obj.cells #[(.int .i64 0), (.int .i64 0), (.slice none 0 0)] 24 (0, 0))], [(b2, Obj.cells #[(.int .i64 v1), (.int .i64 v2), (.slice a7 (List.length (x5 ++ [v8])) n7)] 24 (0, 0))], H7] ⟨rfl, rfl, rfl, rfl, trivial⟩ rfl ?_
        refine at_nb ?_
        refine at_then ?_
        refine at_region [0, 1, 2] rfl ?_
        iterate 3 refine at_s T rfl ?_
        refine at_end ?_
        refine at_sub [(2, (.slice a_c (List.length c) n_c)), (6, (.pointer (some ⟨b1, 0, none⟩))), (7, (.pointer (some ⟨b2, 0, none⟩))), (8, (.int .i64 (w64 (x6 + 1))))] ⟨rfl, rfl, rfl, rfl, trivial⟩ ?_
        refine at_then ?_
        exact at_roundL (k7, (x5 ++ [v8]), (w64 (x6 + 1)), a7, n7, H7) [0, 0, 0, 0] ⟨Z3, s7⟩ (Nat.lt_succ_self _) ⟨rfl, rfl, rfl, rfl, trivial⟩ rfl
      · replace Z3 := if_f (of_decide_eq_false c5) Z3
        refine at_skip ?_
        refine at_then ?_
        refine at_region_m [[], [0], [], [2], [2, 3], [0, 1, 2, 3, 4], [0, 1, 2, 3, 4, 5], [0, 1, 2, 3, 4, 5, 6]] [5, 7] [F, [(b1, Obj.cells #[(.int .i64 0), (.int .i64 0), (.slice none 0 0)] 24 (0, 0))], [(b2, Obj.cells #[(.int .i64 v1), (.int .i64 v2), (.slice a4 (List.length x5) n4)] 24 (0, 0))], H4] mix (by kernel_rfl) (by repeat first | exact pf_body | refine pf_then ?_ | refine pf_block ?_) (fun hg pf => ?_)
        refine atm_s T 0 hg pf (by kernel_rfl) (still_o [0, 0, 0, 0] rfl) rfl ?_
        refine atm_v 1 hg pf (by kernel_rfl) (still_o [0, 0, 0, 0] rfl) rfl rfl (g_load T rfl rfl rfl rfl (in_var (j := 2) rfl rfl)) ?_
        refine atm_s T 2 hg pf (by kernel_rfl) (still_o [0, 0, 0, 0] rfl) rfl ?_
        refine atm_one 3 (by kernel_rfl) ?_
        obtain ⟨v9, V11, Z3⟩ := bind_e Z3
        refine at_c (B := fun _ => []) [] rfl rfl rfl rfl has50 rfl rfl (ref1_Cost.c 1 v9 _ V11) (fun _ => ?_)
        refine atm_next (still_o [0, 0, 0, 0] rfl) ?_
        refine atm_one 4 (by kernel_rfl) ?_
        refine at_bs (k := (Fl.int .u8)) T [v9] rfl rfl rfl rfl rfl rfl rfl rfl rfl (fun a8 H8 s8 => ?_)
        refine atm_next (still_o [0, 0, 0, 0] rfl) ?_
        refine atm_one 5 (by kernel_rfl) ?_
        obtain ⟨c12, Z3⟩ := chk_e Z3
        refine at_ap (k := (Fl.int .u8)) (xs := x5) T (g := 3) rfl rfl rfl rfl rfl rfl rfl rfl rfl rfl s4 (own_of s8 (j := 4) rfl) c12 rfl (fun a9 n9 H9 s9 => ?_)
        refine atm_next (still_l (by kernel_rfl)) ?_
        refine atm_s T 6 hg pf (by kernel_rfl) (still_l (by kernel_rfl)) rfl ?_
        refine atm_one 7 (by kernel_rfl) ?_
        refine at_st T 2 [(.int .i64 v1), (.int .i64 v2), (.slice a9 (List.length (x5 ++ [v9])) n9)] rfl rfl rfl rfl rfl rfl rfl rfl rfl rfl ?_
        refine atm_next (still_l (by kernel_rfl)) ?_
        refine atm_end (by kernel_rfl) ?_
        refine at_to [(2, (.slice a_c (List.length c) n_c)), (6, (.pointer (some ⟨b1, 0, none⟩))), (7, (.pointer (some ⟨b2, 0, none⟩))), (8, (.int .i64 x6))] [0, 0, 0, 0] [F, [(b1, Obj.cells #[(.int .i64 0), (.int .i64 0), (.slice none 0 0)] 24 (0, 0))], [(b2, Obj.cells #[(.int .i64 v1), (.int .i64 v2), (.slice a9 (List.length (x5 ++ [v9])) n9)] 24 (0, 0))], H9] ⟨rfl, rfl, rfl, rfl, trivial⟩ rfl ?_
        refine at_nb ?_
        refine at_then ?_
        refine at_region [0, 1, 2] rfl ?_
        iterate 3 refine at_s T rfl ?_
        refine at_end ?_
        refine at_sub [(2, (.slice a_c (List.length c) n_c)), (6, (.pointer (some ⟨b1, 0, none⟩))), (7, (.pointer (some ⟨b2, 0, none⟩))), (8, (.int .i64 (w64 (x6 + 1))))] ⟨rfl, rfl, rfl, rfl, trivial⟩ ?_
        refine at_then ?_
        exact at_roundL (k7, (x5 ++ [v9]), (w64 (x6 + 1)), a9, n9, H9) [0, 0, 0, 0] ⟨Z3, s9⟩ (Nat.lt_succ_self _) ⟨rfl, rfl, rfl, rfl, trivial⟩ rfl
    · replace Z3 := if_f (of_decide_eq_false c4) Z3
      refine at_exit ?_
      refine at_xt ?_
      refine at_xt ?_
      refine at_xb ?_
      refine at_then ?_
      refine at_seq ?_
      refine at_region [0, 1] rfl ?_
      refine at_v rfl (g_loadA T (cs := [(.int .i64 v1), (.int .i64 v2), (.slice a4 (List.length x5) n4)]) rfl rfl rfl rfl rfl rfl (in_varA (j := 2) rfl rfl)) ?_
      refine at_cons (at_st T 1 [(.int .i64 v1), (.int .i64 v2), (.slice a4 (List.length x5) n4)] rfl rfl rfl rfl rfl rfl rfl rfl rfl rfl ?_)
      refine at_end ?_
      refine at_to [(6, (.pointer (some ⟨b1, 0, none⟩)))] [0, 0, 1] [F, [(b1, Obj.cells #[(.int .i64 v1), (.int .i64 v2), (.slice a4 (List.length x5) n4)] 24 (0, 0))], H4] ⟨rfl, trivial⟩ rfl ?_
      refine at_then ?_
      refine at_ret ?_
      obtain rfl := Option.some.inj Z3
      exact at_post (T := T) rfl (.aggv (j := 1) [(.int .i64 v1), (.int .i64 v2), (.slice a4 (List.length x5) n4)] rfl rfl rfl rfl rfl rfl rfl .nil) (fun w o => ⟨⟨(_, _), ⟨a4, n4, H4, s4, rfl, rfl⟩⟩, rfl, own_to [2, 0] rfl o⟩)

/-! ### herdsman/herdsmanref1.In: function 32 -/
def ref1_In.f (n : Int) (lo : Int) (hi : Int) : Option Bool := some ((decide (n ≥ lo)) && (decide (n ≤ hi)))
set_option maxHeartbeats 4000000 in
theorem ref1_In.c (n : Int) (lo : Int) (hi : Int) (r : Bool) (F : Hp) (H : ref1_In.f n lo hi = some r) :
    CallsL Try.prog 32 [(.int .i64 n), (.int .i64 lo), (.int .i64 hi)] [F] (fun _ : Unit => (.bool r)) (fun _ => [F]) := by
  unfold ref1_In.f at H
  refine calls_atL [(0, (.int .i64 n)), (1, (.int .i64 lo)), (2, (.int .i64 hi))] Try.func32 rfl rfl ⟨rfl, rfl, rfl, trivial⟩ (fun W => ?_)
  refine at_seq ?_
  refine at_region [0] rfl ?_
  refine at_s T rfl ?_
  refine at_end ?_
  refine at_sub [(0, (.int .i64 n)), (1, (.int .i64 lo)), (2, (.int .i64 hi))] ⟨rfl, rfl, rfl, trivial⟩ ?_
  refine at_then ?_
  refine at_seq ?_
  refine at_region [0, 1, 2, 3, 4, 5, 6, 7, 8] rfl ?_
  iterate 4 refine at_s T rfl ?_
  refine at_grp T [4, 5, 6, 7] (s := 10) (c := (decide (n ≥ lo))) [(14, (.bool ((decide (n ≥ lo)) && (decide (n ≤ hi)))))] rfl rfl rfl (fun c1 => ⟨(by rw [c1]; rfl), trivial⟩) (fun c1 => ⟨(by rw [c1]; rfl), trivial⟩) ?_
  refine at_s T rfl ?_
  refine at_end ?_
  refine at_sub [(6, (.bool ((decide (n ≥ lo)) && (decide (n ≤ hi)))))] ⟨rfl, trivial⟩ ?_
  refine at_then ?_
  refine at_ret ?_
  obtain rfl := Option.some.inj H
  exact at_post (T := T) rfl (.tmp rfl .nil) (fun w o => ⟨(), rfl, own_to [0] rfl o⟩)

/-! ### herdsman/herdsmanref1.full: function 46 -/
def ref1_full.l0 : Nat → (List Int) → Int → Option Bool
  | 0, _, _ => none
  | k3 + 1, c, x2 => if x2 < (List.length c : Int) then (if (0 ≤ x2 ∧ x2 < (List.length c : Int)) then (if ((rd c x2) == 0) = true then (some false) else (ref1_full.l0 k3 c (w64 (x2 + 1)))) else none) else (some true)
def ref1_full.f (c : (List Int)) : Option Bool := ref1_full.l0 fuel c 0
set_option maxHeartbeats 4000000 in
theorem ref1_full.c {a_c : Option Addr} {n_c : Nat} (c : (List Int)) (r : Bool) (F : Hp) (H : ref1_full.f c = some r) (h_c : SliceR (Fl.int .u8) c a_c F) (c_c : List.length c ≤ n_c) :
    CallsL Try.prog 46 [(.slice a_c (List.length c) n_c)] [F] (fun _ : Unit => (.bool r)) (fun _ => [F]) := by
  unfold ref1_full.f at H
  refine calls_atL [(0, (.slice a_c (List.length c) n_c))] Try.func46 rfl rfl ⟨rfl, trivial⟩ (fun W => ?_)
  refine at_seq ?_
  refine at_region [0] rfl ?_
  refine at_s T rfl ?_
  refine at_end ?_
  refine at_sub [(0, (.slice a_c (List.length c) n_c))] ⟨rfl, trivial⟩ ?_
  refine at_then ?_
  refine at_seq ?_
  refine at_seq ?_
  refine at_region [0] rfl ?_
  refine at_s T rfl ?_
  refine at_end ?_
  refine at_sub [(0, (.slice a_c (List.length c) n_c)), (3, (.int .i64 0))] ⟨rfl, rfl, trivial⟩ ?_
  refine at_then ?_
  refine at_block ?_
  refine at_loopL (σ := Nat × Int) (fun ⟨k3, x2⟩ => ref1_full.l0 k3 c x2 = some r) (fun ⟨k3, x2⟩ => [(0, (.slice a_c (List.length c) n_c)), (3, (.int .i64 x2))]) (fun ⟨k3, x2⟩ => [F]) (fun s => s.1) (fuel, 0) [0] H ⟨rfl, rfl, trivial⟩ rfl ?_
  rintro ⟨k3, x2⟩ Z1
  replace Z1 : ref1_full.l0 k3 c x2 = some r := Z1
  rcases k3 with _ | k3
  · rw [ref1_full.l0] at Z1; cases Z1
  · rw [ref1_full.l0] at Z1
    refine at_seq ?_
    refine at_seq ?_
    refine at_region [0, 1, 2, 3] rfl ?_
    iterate 4 refine at_s T rfl ?_
    refine at_end ?_
    refine at_sub [(0, (.slice a_c (List.length c) n_c)), (3, (.int .i64 x2)), (7, (.bool (decide (x2 < (List.length c : Int)))))] ⟨rfl, rfl, rfl, trivial⟩ ?_
    refine at_then ?_
    refine at_cond rfl (fun c2 => ?_) (fun c2 => ?_)
    · replace Z1 := if_t (of_decide_eq_true c2) Z1
      refine at_skip ?_
      refine at_then ?_
      refine at_seq ?_
      refine at_block ?_
      refine at_seq ?_
      refine at_region [0, 1, 2, 3, 4] rfl ?_
      iterate 2 refine at_s T rfl ?_
      obtain ⟨c3, Z1⟩ := chk_e Z1
      obtain ⟨q1, o1, e1⟩ := h_c.addr c3.1 c3.2
      refine at_v rfl (g_index T rfl rfl rfl rfl rfl e1 c3.1 c3.2) ?_
      refine at_v rfl (g_load T rfl rfl rfl rfl (in_elem1 (k := (Fl.int .u8)) (ro_of h_c (j := 0) rfl) e1 c3 0 rfl)) ?_
      refine at_s T rfl ?_
      refine at_end ?_
      refine at_sub [(0, (.slice a_c (List.length c) n_c)), (3, (.int .i64 x2)), (14, (.bool ((rd c x2) == 0)))] ⟨rfl, rfl, rfl, trivial⟩ ?_
      refine at_then ?_
      refine at_cond rfl (fun c4 => ?_) (fun c4 => ?_)
      · replace Z1 := if_t c4 Z1
        refine at_seq ?_
        refine at_region [0] rfl ?_
        refine at_s T rfl ?_
        refine at_end ?_
        refine at_sub [(2, (.bool false))] ⟨rfl, trivial⟩ ?_
        refine at_then ?_
        refine at_ret ?_
        refine at_rb ?_
        refine at_rt ?_
        refine at_rt ?_
        refine at_rb ?_
        refine at_rt ?_
        obtain rfl := Option.some.inj Z1
        exact at_post (T := T) rfl (.tmp rfl .nil) (fun w o => ⟨(), rfl, own_to [0] rfl o⟩)
      · replace Z1 := if_f (bf c4) Z1
        refine at_skip ?_
        refine at_nb ?_
        refine at_then ?_
        refine at_region [0, 1, 2] rfl ?_
        iterate 3 refine at_s T rfl ?_
        refine at_end ?_
        refine at_sub [(0, (.slice a_c (List.length c) n_c)), (3, (.int .i64 (w64 (x2 + 1))))] ⟨rfl, rfl, trivial⟩ ?_
        refine at_then ?_
        exact at_roundL (k3, (w64 (x2 + 1))) [0] Z1 (Nat.lt_succ_self _) ⟨rfl, rfl, trivial⟩ rfl
    · replace Z1 := if_f (of_decide_eq_false c2) Z1
      refine at_exit ?_
      refine at_xt ?_
      refine at_xt ?_
      refine at_xb ?_
      refine at_then ?_
      refine at_seq ?_
      refine at_region [0] rfl ?_
      refine at_s T rfl ?_
      refine at_end ?_
      refine at_sub [(2, (.bool true))] ⟨rfl, trivial⟩ ?_
      refine at_then ?_
      refine at_ret ?_
      obtain rfl := Option.some.inj Z1
      exact at_post (T := T) rfl (.tmp rfl .nil) (fun w o => ⟨(), rfl, own_to [0] rfl o⟩)

/-! ### herdsman/herdsmanref1.MayTile: function 13 -/
def ref1_MayTile.f (t : api_Tile) : Option Bool := ((ref1_In.f t.W 1 16).bind fun v3 => if (!v3) = true then (some true) else ((ref1_In.f t.H 1 16).bind fun v4 => if (!v4) = true then (some true) else (some ((List.length t.C : Int) != (w64 (t.W * t.H)))))).bind fun x1 => if x1 = true then (some false) else ((ref1_full.f t.C).bind fun v5 => some v5)
set_option maxHeartbeats 4000000 in
theorem ref1_MayTile.c {a_t_C : Option Addr} {n_t_C : Nat} (t : api_Tile) (r : Bool) (F : Hp) (H : ref1_MayTile.f t = some r) (h_t_C : SliceR (Fl.int .u8) t.C a_t_C F) (c_t_C : List.length t.C ≤ n_t_C) :
    CallsL Try.prog 13 [(.agg #[(.int .i64 t.W), (.int .i64 t.H), (.slice a_t_C (List.length t.C) n_t_C)])] [F] (fun _ : Unit => (.bool r)) (fun _ => [F]) := by
  unfold ref1_MayTile.f at H
  refine calls_atL [(0, (.agg #[(.int .i64 t.W), (.int .i64 t.H), (.slice a_t_C (List.length t.C) n_t_C)]))] Try.func13 rfl rfl ⟨rfl, trivial⟩ (fun W => ?_)
  refine at_seq ?_
  refine at_region [0, 1] rfl ?_
  refine at_cons (at_bx T [(.int .i64 t.W), (.int .i64 t.H), (.slice a_t_C (List.length t.C) n_t_C)] rfl rfl rfl rfl (fun b1 => ?_))
  refine at_s T rfl ?_
  refine at_end ?_
  refine at_sub [(1, (.pointer (some ⟨b1, 0, none⟩)))] ⟨rfl, trivial⟩ ?_
  refine at_then ?_
  refine at_seq ?_
  obtain ⟨z2, Z1, H⟩ := bind_e H
  refine at_seq_mid (σ := Bool) (fun x1 => x1 = z2) (fun x1 => [(1, (.pointer (some ⟨b1, 0, none⟩))), (23, (.bool x1))]) (fun x1 => [F, [(b1, Obj.cells #[(.int .i64 t.W), (.int .i64 t.H), (.slice a_t_C (List.length t.C) n_t_C)] 24 (0, 0))]]) ?_ ?_
  · refine at_region [0, 1, 2, 3, 4, 5, 6, 7, 8, 9, 10, 11, 12, 13, 14, 15, 16, 17, 18, 19, 20] rfl ?_
    refine at_s T rfl ?_
    refine at_v rfl (g_load T rfl rfl rfl rfl (in_var (j := 1) rfl rfl)) ?_
    obtain ⟨v3, V2, Z1⟩ := bind_e Z1
    refine at_cons (at_c (B := fun _ => []) [] rfl rfl rfl rfl has32 rfl rfl (ref1_In.c t.W 1 16 v3 _ V2) (fun _ => ?_))
    iterate 2 refine at_s T rfl ?_
    refine at_case (s := 7) rfl (fun c3 => ?_) (fun c3 => ?_)
    · replace Z1 := if_t c3 Z1
      iterate 16 refine at_s T rfl ?_
      refine at_end ?_
      refine at_sub [(1, (.pointer (some ⟨b1, 0, none⟩))), (23, (.bool true))] ⟨rfl, rfl, trivial⟩ ?_
      refine at_then ?_
      obtain rfl := Option.some.inj Z1
      exact at_mid true [0, 0] rfl ⟨rfl, rfl, trivial⟩ rfl
    · replace Z1 := if_f (bf c3) Z1
      refine at_s T rfl ?_
      refine at_v rfl (g_load T rfl rfl rfl rfl (in_var (j := 1) rfl rfl)) ?_
      obtain ⟨v4, V4, Z1⟩ := bind_e Z1
      refine at_cons (at_c (B := fun _ => []) [] rfl rfl rfl rfl has32 rfl rfl (ref1_In.c t.H 1 16 v4 _ V4) (fun _ => ?_))
      iterate 3 refine at_s T rfl ?_
      refine at_case (s := 13) rfl (fun c5 => ?_) (fun c5 => ?_)
      · replace Z1 := if_t c5 Z1
        iterate 10 refine at_s T rfl ?_
        refine at_end ?_
        refine at_sub [(1, (.pointer (some ⟨b1, 0, none⟩))), (23, (.bool true))] ⟨rfl, rfl, trivial⟩ ?_
        refine at_then ?_
        obtain rfl := Option.some.inj Z1
        exact at_mid true [0, 0] rfl ⟨rfl, rfl, trivial⟩ rfl
      · replace Z1 := if_f (bf c5) Z1
        refine at_s T rfl ?_
        refine at_v rfl (g_load T rfl rfl rfl rfl (in_var (j := 1) rfl rfl)) ?_
        iterate 2 refine at_s T rfl ?_
        refine at_v rfl (g_load T rfl rfl rfl rfl (in_var (j := 1) rfl rfl)) ?_
        refine at_s T rfl ?_
        refine at_v rfl (g_load T rfl rfl rfl rfl (in_var (j := 1) rfl rfl)) ?_
        iterate 3 refine at_s T rfl ?_
        refine at_end ?_
        refine at_sub [(1, (.pointer (some ⟨b1, 0, none⟩))), (23, (.bool ((List.length t.C : Int) != (w64 (t.W * t.H)))))] ⟨rfl, rfl, trivial⟩ ?_
        refine at_then ?_
        obtain rfl := Option.some.inj Z1
        exact at_mid ((List.length t.C : Int) != (w64 (t.W * t.H))) [0, 0] rfl ⟨rfl, rfl, trivial⟩ rfl
  · rintro x1 rfl
    refine at_cond rfl (fun c6 => ?_) (fun c6 => ?_)
    · replace H := if_t c6 H
      refine at_seq ?_
      refine at_region [0] rfl ?_
      refine at_s T rfl ?_
      refine at_end ?_
      refine at_to [(2, (.bool false))] [0] [F] ⟨rfl, trivial⟩ rfl ?_
      refine at_then ?_
      refine at_ret ?_
      refine at_rt ?_
      obtain rfl := Option.some.inj H
      exact at_post (T := T) rfl (.tmp rfl .nil) (fun w o => ⟨(), rfl, own_to [0] rfl o⟩)
    · replace H := if_f (bf c6) H
      refine at_skip ?_
      refine at_then ?_
      refine at_seq ?_
      refine at_region [0, 1, 2, 3] rfl ?_
      refine at_s T rfl ?_
      refine at_v rfl (g_load T rfl rfl rfl rfl (in_var (j := 1) rfl rfl)) ?_
      obtain ⟨v5, V7, H⟩ := bind_e H
      refine at_cons (at_c (B := fun _ => []) [] rfl rfl rfl rfl has46 rfl rfl (ref1_full.c t.C v5 _ V7 (ro_of h_t_C (j := 0) rfl) c_t_C) (fun _ => ?_))
      refine at_s T rfl ?_
      refine at_end ?_
      refine at_to [(2, (.bool v5))] [0] [F] ⟨rfl, trivial⟩ rfl ?_
      refine at_then ?_
      refine at_ret ?_
      obtain rfl := Option.some.inj H
      exact at_post (T := T) rfl (.tmp rfl .nil) (fun w o => ⟨(), rfl, own_to [0] rfl o⟩)

/-! ### herdsman/herdsmanref1.runs: function 47 -/
def ref1_runs.l1 : Nat → (List Int) → Int → Int → Option Int
  | 0, _, _, _ => none
  | k10 + 1, c, x4, x9 => (if (w64 (x4 + x9)) < (List.length c : Int) then (if (0 ≤ (w64 (x4 + x9)) ∧ (w64 (x4 + x9)) < (List.length c : Int)) then (if (0 ≤ x4 ∧ x4 < (List.length c : Int)) then (some ((rd c (w64 (x4 + x9))) == (rd c x4))) else none) else none) else (some false)).bind fun x11 => if x11 = true then (ref1_runs.l1 k10 c x4 (w64 (x9 + 1))) else (some x9)
def ref1_runs.l0 : Nat → (List Int) → List Int → Int → Option (List Int)
  | 0, _, _, _ => none
  | k5 + 1, c, x3, x4 => if x4 < (List.length c : Int) then ((ref1_runs.l1 fuel c x4 1).bind fun x6 => if (0 ≤ x4 ∧ x4 < (List.length c : Int)) then (if (List.length x3 + 2 ≤ 1099511627776) then (ref1_runs.l0 k5 c (x3 ++ [(wu8 (w64 (x6 - 1))), (rd c x4)]) (w64 (x4 + x6))) else none) else none) else (some x3)
def ref1_runs.f (c : (List Int)) : Option (List Int) := ref1_runs.l0 fuel c [2] 0
def ref1_runs.R (r : (List Int)) (u : Value) (G : List Hp) : Prop := ∃ (a0 : Option Addr) (n0 : Nat) (H0 : Hp), SliceO (Fl.int .u8) 5 r a0 n0 H0 ∧ u = (.slice a0 (List.length r) n0) ∧ G = [H0]
set_option maxHeartbeats 4000000 in
theorem ref1_runs.c {a_c : Option Addr} {n_c : Nat} (c : (List Int)) (r : (List Int)) (F : Hp) (H : ref1_runs.f c = some r) (h_c : SliceR (Fl.int .u8) c a_c F) (c_c : List.length c ≤ n_c) :
    CallsL Try.prog 47 [(.slice a_c (List.length c) n_c)] [F] (fun p : { p : Value × List Hp // ref1_runs.R r p.1 p.2 } => p.1.1) (fun p => (p.1.2 ++ []) ++ [F]) := by
  unfold ref1_runs.f at H
  refine calls_atL [(0, (.slice a_c (List.length c) n_c))] Try.func47 rfl rfl ⟨rfl, trivial⟩ (fun W => ?_)
  refine at_seq ?_
  refine at_region [0] rfl ?_
  refine at_s T rfl ?_
  refine at_end ?_
  refine at_sub [(0, (.slice a_c (List.length c) n_c))] ⟨rfl, trivial⟩ ?_
  refine at_then ?_
  refine at_seq ?_
  refine at_region [0, 1] rfl ?_
  refine at_cons (at_bs (k := (Fl.int .u8)) T [2] rfl rfl rfl rfl rfl rfl rfl rfl rfl (fun a1 H1 s1 => ?_))
  refine at_s T rfl ?_
  refine at_end ?_
  refine at_sub [(0, (.slice a_c (List.length c) n_c)), (3, (.slice a1 (List.length [2]) (List.length [2])))] ⟨rfl, rfl, trivial⟩ ?_
  refine at_then ?_
  refine at_seq ?_
  refine at_seq ?_
  refine at_region [0] rfl ?_
  refine at_s T rfl ?_
  refine at_end ?_
  refine at_sub [(0, (.slice a_c (List.length c) n_c)), (3, (.slice a1 (List.length [2]) (List.length [2]))), (4, (.int .i64 0))] ⟨rfl, rfl, rfl, trivial⟩ ?_
  refine at_then ?_
  refine at_block ?_
  refine at_loopL (σ := Nat × List Int × Int × Option Addr × Nat × Hp) (fun ⟨k5, x3, x4, a3, n3, H3⟩ => ref1_runs.l0 k5 c x3 x4 = some r ∧ SliceO (Fl.int .u8) 5 x3 a3 n3 H3) (fun ⟨k5, x3, x4, a3, n3, H3⟩ => [(0, (.slice a_c (List.length c) n_c)), (3, (.slice a3 (List.length x3) n3)), (4, (.int .i64 x4))]) (fun ⟨k5, x3, x4, a3, n3, H3⟩ => [F, H3]) (fun s => s.1) (fuel, [2], 0, a1, (List.length [2]), H1) [0, 0] ⟨H, s1⟩ ⟨rfl, rfl, rfl, trivial⟩ rfl ?_
  rintro ⟨k5, x3, x4, a3, n3, H3⟩ ⟨Z1, s3⟩
  replace Z1 : ref1_runs.l0 k5 c x3 x4 = some r := Z1
  rcases k5 with _ | k5
  · rw [ref1_runs.l0] at Z1; cases Z1
  · rw [ref1_runs.l0] at Z1
    refine at_seq ?_
    refine at_seq ?_
    refine at_region [0, 1, 2, 3] rfl ?_
    iterate 4 refine at_s T rfl ?_
    refine at_end ?_
    refine at_sub [(0, (.slice a_c (List.length c) n_c)), (3, (.slice a3 (List.length x3) n3)), (4, (.int .i64 x4)), (10, (.bool (decide (x4 < (List.length c : Int)))))] ⟨rfl, rfl, rfl, rfl, trivial⟩ ?_
    refine at_then ?_
    refine at_cond rfl (fun c2 => ?_) (fun c2 => ?_)
    · replace Z1 := if_t (of_decide_eq_true c2) Z1
      refine at_skip ?_
      refine at_then ?_
      refine at_block ?_
      refine at_seq ?_
      refine at_region [0] rfl ?_
      refine at_s T rfl ?_
      refine at_end ?_
      refine at_sub [(0, (.slice a_c (List.length c) n_c)), (3, (.slice a3 (List.length x3) n3)), (4, (.int .i64 x4)), (5, (.int .i64 1))] ⟨rfl, rfl, rfl, rfl, trivial⟩ ?_
      refine at_then ?_
      obtain ⟨z7, Z3, Z1⟩ := bind_e Z1
      refine at_seq_mid (σ := Int) (fun x6 => x6 = z7) (fun x6 => [(0, (.slice a_c (List.length c) n_c)), (3, (.slice a3 (List.length x3) n3)), (4, (.int .i64 x4)), (5, (.int .i64 x6))]) (fun x6 => [F, H3]) ?_ ?_
      · refine at_block ?_
        refine at_loopL (σ := Nat × Int) (fun ⟨k10, x9⟩ => ref1_runs.l1 k10 c x4 x9 = some z7) (fun ⟨k10, x9⟩ => [(0, (.slice a_c (List.length c) n_c)), (3, (.slice a3 (List.length x3) n3)), (4, (.int .i64 x4)), (5, (.int .i64 x9))]) (fun ⟨k10, x9⟩ => [F, H3]) (fun s => s.1) (fuel, 1) [0, 0] Z3 ⟨rfl, rfl, rfl, rfl, trivial⟩ rfl ?_
        rintro ⟨k10, x9⟩ Z4
        replace Z4 : ref1_runs.l1 k10 c x4 x9 = some z7 := Z4
        rcases k10 with _ | k10
        · rw [ref1_runs.l1] at Z4; cases Z4
        · rw [ref1_runs.l1] at Z4
          refine at_seq ?_
          obtain ⟨z12, Z5, Z4⟩ := bind_e Z4
          refine at_seq_mid (σ := Bool) (fun x11 => x11 = z12) (fun x11 => [(0, (.slice a_c (List.length c) n_c)), (3, (.slice a3 (List.length x3) n3)), (4, (.int .i64 x4)), (5, (.int .i64 x9)), (29, (.bool x11))]) (fun x11 => [F, H3]) ?_ ?_
          · refine at_region_q mix (by kernel_rfl) ?_
            iterate 7 refine atq_s T rfl ?_
            refine atq_case (s := 17) rfl (fun c6 => ?_) (fun c6 => ?_)
            · replace Z5 := if_t (of_decide_eq_true c6) Z5
              iterate 4 refine atq_s T rfl ?_
              obtain ⟨c7, Z5⟩ := chk_e Z5
              obtain ⟨q4, o4, e4⟩ := h_c.addr c7.1 c7.2
              refine atq_v rfl rfl rfl (g_index T rfl rfl rfl rfl rfl e4 c7.1 c7.2) ?_
              refine atq_v rfl rfl rfl (g_load T rfl rfl rfl rfl (in_elem1 (k := (Fl.int .u8)) (ro_of h_c (j := 0) rfl) e4 c7 0 rfl)) ?_
              iterate 2 refine atq_s T rfl ?_
              obtain ⟨c8, Z5⟩ := chk_e Z5
              refine atq_v rfl rfl rfl (g_index T rfl rfl rfl rfl rfl e4 c8.1 c8.2) ?_
              refine atq_v rfl rfl rfl (g_load T rfl rfl rfl rfl (in_elem1 (k := (Fl.int .u8)) (ro_of h_c (j := 0) rfl) e4 c8 0 rfl)) ?_
              iterate 2 refine atq_s T rfl ?_
              refine atq_end ?_
              refine at_sub [(0, (.slice a_c (List.length c) n_c)), (3, (.slice a3 (List.length x3) n3)), (4, (.int .i64 x4)), (5, (.int .i64 x9)), (29, (.bool ((rd c (w64 (x4 + x9))) == (rd c x4))))] ⟨rfl, rfl, rfl, rfl, rfl, trivial⟩ ?_
              refine at_then ?_
              obtain rfl := Option.some.inj Z5
              exact at_mid ((rd c (w64 (x4 + x9))) == (rd c x4)) [0, 0] rfl ⟨rfl, rfl, rfl, rfl, rfl, trivial⟩ rfl
            · replace Z5 := if_f (of_decide_eq_false c6) Z5
              iterate 12 refine atq_s T rfl ?_
              refine atq_end ?_
              refine at_sub [(0, (.slice a_c (List.length c) n_c)), (3, (.slice a3 (List.length x3) n3)), (4, (.int .i64 x4)), (5, (.int .i64 x9)), (29, (.bool false))] ⟨rfl, rfl, rfl, rfl, rfl, trivial⟩ ?_
              refine at_then ?_
              obtain rfl := Option.some.inj Z5
              exact at_mid false [0, 0] rfl ⟨rfl, rfl, rfl, rfl, rfl, trivial⟩ rfl
          · rintro x11 rfl
            refine at_cond rfl (fun c9 => ?_) (fun c9 => ?_)
            · replace Z4 := if_t c9 Z4
              refine at_skip ?_
              refine at_then ?_
              refine at_block ?_
              refine at_region [0, 1, 2] rfl ?_
              iterate 3 refine at_s T rfl ?_
              refine at_end ?_
              refine at_sub [(0, (.slice a_c (List.length c) n_c)), (3, (.slice a3 (List.length x3) n3)), (4, (.int .i64 x4)), (5, (.int .i64 (w64 (x9 + 1))))] ⟨rfl, rfl, rfl, rfl, trivial⟩ ?_
              refine at_nb ?_
              refine at_then ?_
              exact at_roundL (k10, (w64 (x9 + 1))) [0, 0] Z4 (Nat.lt_succ_self _) ⟨rfl, rfl, rfl, rfl, trivial⟩ rfl
            · replace Z4 := if_f (bf c9) Z4
              refine at_exit ?_
              refine at_xt ?_
              refine at_xt ?_
              refine at_xb ?_
              refine at_then ?_
              obtain rfl := Option.some.inj Z4
              exact at_mid x9 [0, 0] rfl ⟨rfl, rfl, rfl, rfl, trivial⟩ rfl
      · rintro x6 rfl
        refine at_seq ?_
        refine at_region [0, 1, 2, 3, 4, 5, 6, 7, 8, 9, 10] rfl ?_
        iterate 6 refine at_s T rfl ?_
        obtain ⟨c10, Z1⟩ := chk_e Z1
        obtain ⟨q5, o5, e5⟩ := h_c.addr c10.1 c10.2
        refine at_v rfl (g_index T rfl rfl rfl rfl rfl e5 c10.1 c10.2) ?_
        refine at_v rfl (g_load T rfl rfl rfl rfl (in_elem1 (k := (Fl.int .u8)) (ro_of h_c (j := 0) rfl) e5 c10 0 rfl)) ?_
        refine at_cons (at_bs (k := (Fl.int .u8)) T [(wu8 (w64 (x6 - 1))), (rd c x4)] rfl rfl rfl rfl rfl rfl rfl rfl rfl (fun a6 H6 s6 => ?_))
        obtain ⟨c11, Z1⟩ := chk_e Z1
        refine at_cons (at_ap (k := (Fl.int .u8)) (xs := x3) T (g := 1) rfl rfl rfl rfl rfl rfl rfl rfl rfl rfl s3 (own_of s6 (j := 2) rfl) c11 rfl (fun a7 n7 H7 s7 => ?_))
        refine at_s T rfl ?_
        refine at_end ?_
        refine at_to [(0, (.slice a_c (List.length c) n_c)), (3, (.slice a7 (List.length (x3 ++ [(wu8 (w64 (x6 - 1))), (rd c x4)])) n7)), (4, (.int .i64 x4)), (5, (.int .i64 x6))] [0, 0] [F, H7] ⟨rfl, rfl, rfl, rfl, trivial⟩ rfl ?_
        refine at_then ?_
        refine at_region [0, 1, 2, 3] rfl ?_
        iterate 4 refine at_s T rfl ?_
        refine at_end ?_
        refine at_sub [(0, (.slice a_c (List.length c) n_c)), (3, (.slice a7 (List.length (x3 ++ [(wu8 (w64 (x6 - 1))), (rd c x4)])) n7)), (4, (.int .i64 (w64 (x4 + x6))))] ⟨rfl, rfl, rfl, trivial⟩ ?_
        refine at_nb ?_
        refine at_then ?_
        exact at_roundL (k5, (x3 ++ [(wu8 (w64 (x6 - 1))), (rd c x4)]), (w64 (x4 + x6)), a7, n7, H7) [0, 0] ⟨Z1, s7⟩ (Nat.lt_succ_self _) ⟨rfl, rfl, rfl, trivial⟩ rfl
    · replace Z1 := if_f (of_decide_eq_false c2) Z1
      refine at_exit ?_
      refine at_xt ?_
      refine at_xt ?_
      refine at_xb ?_
      refine at_then ?_
      refine at_seq ?_
      refine at_region [0, 1] rfl ?_
      iterate 2 refine at_s T rfl ?_
      refine at_end ?_
      refine at_sub [(2, (.slice a3 (List.length x3) n3))] ⟨rfl, trivial⟩ ?_
      refine at_then ?_
      refine at_ret ?_
      obtain rfl := Option.some.inj Z1
      exact at_post (T := T) rfl (.tmp rfl .nil) (fun w o => ⟨⟨(_, _), ⟨a3, n3, H3, s3, rfl, rfl⟩⟩, rfl, own_to [1, 0] rfl o⟩)

/-! ### herdsman/herdsmanref1.PutTile: function 15 -/
def ref1_PutTile.f (t : api_Tile) : Option (Int × (List Int)) := (ref1_runs.f t.C).bind fun v1 => if ((List.length v1 : Int) == 3) = true then (if (0 ≤ (0 : Int) ∧ (0 : Int) < (List.length t.C : Int)) then (some (0, [0, (rd t.C 0)])) else none) else (if (List.length v1 : Int) < (w64 (1 + (List.length t.C : Int))) then (some (2, v1)) else (if (List.length [1] + List.length t.C ≤ 1099511627776) then (some (1, ([1] ++ t.C))) else none))
def ref1_PutTile.R (r : (Int × (List Int))) (u : Value) (G : List Hp) : Prop := ∃ (a0 : Option Addr) (n0 : Nat) (H0 : Hp), SliceO (Fl.int .u8) 5 r.2 a0 n0 H0 ∧ u = (.tuple #[(.int .i64 r.1), (.slice a0 (List.length r.2) n0)]) ∧ G = [H0]
set_option maxHeartbeats 4000000 in
theorem ref1_PutTile.c {a_t_C : Option Addr} {n_t_C : Nat} (t : api_Tile) (r : (Int × (List Int))) (F : Hp) (H : ref1_PutTile.f t = some r) (h_t_C : SliceR (Fl.int .u8) t.C a_t_C F) (c_t_C : List.length t.C ≤ n_t_C) :
    CallsL Try.prog 15 [(.agg #[(.int .i64 t.W), (.int .i64 t.H), (.slice a_t_C (List.length t.C) n_t_C)])] [F] (fun p : { p : Value × List Hp // ref1_PutTile.R r p.1 p.2 } => p.1.1) (fun p => (p.1.2 ++ []) ++ [F]) := by
  unfold ref1_PutTile.f at H
  refine calls_atL [(0, (.agg #[(.int .i64 t.W), (.int .i64 t.H), (.slice a_t_C (List.length t.C) n_t_C)]))] Try.func15 rfl rfl ⟨rfl, trivial⟩ (fun W => ?_)
  refine at_seq ?_
  refine at_region [0, 1, 2] rfl ?_
  refine at_cons (at_bx T [(.int .i64 t.W), (.int .i64 t.H), (.slice a_t_C (List.length t.C) n_t_C)] rfl rfl rfl rfl (fun b1 => ?_))
  iterate 2 refine at_s T rfl ?_
  refine at_end ?_
  refine at_sub [(1, (.pointer (some ⟨b1, 0, none⟩)))] ⟨rfl, trivial⟩ ?_
  refine at_then ?_
  refine at_seq ?_
  refine at_region [0, 1, 2, 3] rfl ?_
  refine at_s T rfl ?_
  refine at_v rfl (g_load T rfl rfl rfl rfl (in_var (j := 1) rfl rfl)) ?_
  obtain ⟨v1, V1, H⟩ := bind_e H
  refine at_cons (at_cR (ref1_runs.R v1) [] [] rfl rfl rfl rfl has47 rfl rfl (ref1_runs.c t.C v1 _ V1 (ro_of h_t_C (j := 0) rfl) c_t_C) ?_)
  rintro _ _ ⟨a2, n2, H2, s2, rfl, rfl⟩
  refine at_s T rfl ?_
  refine at_end ?_
  refine at_sub [(1, (.pointer (some ⟨b1, 0, none⟩))), (4, (.slice a2 (List.length v1) n2))] ⟨rfl, rfl, trivial⟩ ?_
  refine at_then ?_
  refine at_seq ?_
  refine at_seq ?_
  refine at_region [0, 1, 2] rfl ?_
  iterate 3 refine at_s T rfl ?_
  refine at_end ?_
  refine at_sub [(1, (.pointer (some ⟨b1, 0, none⟩))), (4, (.slice a2 (List.length v1) n2)), (10, (.bool ((List.length v1 : Int) == 3)))] ⟨rfl, rfl, rfl, trivial⟩ ?_
  refine at_then ?_
  refine at_cond rfl (fun c2 => ?_) (fun c2 => ?_)
  · replace H := if_t c2 H
    refine at_seq ?_
    refine at_region_m [[], [0], [0, 1], [0, 1, 2], [0, 1, 2, 3], [], [0, 1, 2, 3, 4, 5]] [] [F, [(b1, Obj.cells #[(.int .i64 t.W), (.int .i64 t.H), (.slice a_t_C (List.length t.C) n_t_C)] 24 (0, 0))], H2] mix (by kernel_rfl) (by repeat first | exact pf_body | refine pf_then ?_ | refine pf_block ?_) (fun hg pf => ?_)
    refine atm_s T 0 hg pf (by kernel_rfl) (still_o [0, 0, 0] rfl) rfl ?_
    refine atm_v 1 hg pf (by kernel_rfl) (still_o [0, 0, 0] rfl) rfl rfl (g_load T rfl rfl rfl rfl (in_var (j := 1) rfl rfl)) ?_
    obtain ⟨c3, H⟩ := chk_e H
    obtain ⟨q3, o3, e3⟩ := h_t_C.addr c3.1 c3.2
    refine atm_v 2 hg pf (by kernel_rfl) (still_o [0, 0, 0] rfl) rfl rfl (g_index T rfl rfl rfl rfl rfl e3 c3.1 c3.2) ?_
    refine atm_v 3 hg pf (by kernel_rfl) (still_o [0, 0, 0] rfl) rfl rfl (g_load T rfl rfl rfl rfl (in_elem1 (k := (Fl.int .u8)) (ro_of h_t_C (j := 0) rfl) e3 c3 0 rfl)) ?_
    refine atm_s T 5 hg pf (by kernel_rfl) (still_o [0, 0, 0] rfl) rfl ?_
    refine atm_one 4 (by kernel_rfl) ?_
    refine at_bs (k := (Fl.int .u8)) T [0, (rd t.C 0)] rfl rfl rfl rfl rfl rfl rfl rfl rfl (fun a4 H4 s4 => ?_)
    refine atm_next (still_o [0, 0, 0] rfl) ?_
    refine atm_s T 6 hg pf (by kernel_rfl) (still_o [0, 0, 0] rfl) rfl ?_
    refine atm_end (by kernel_rfl) ?_
    refine at_to [(2, (.int .i64 0)), (3, (.slice a4 (List.length [0, (rd t.C 0)]) (List.length [0, (rd t.C 0)])))] [0, 2] [F, H4] ⟨rfl, rfl, trivial⟩ rfl ?_
    refine at_then ?_
    refine at_ret ?_
    refine at_rt ?_
    obtain rfl := Option.some.inj H
    exact at_post (T := T) rfl (.tmp rfl (.tmp rfl .nil)) (fun w o => ⟨⟨(_, _), ⟨a4, (List.length [0, (rd t.C 0)]), H4, s4, rfl, rfl⟩⟩, rfl, own_to [1, 0] rfl o⟩)
  · replace H := if_f (bf c2) H
    refine at_skip ?_
    refine at_then ?_
    refine at_seq ?_
    refine at_seq ?_
    refine at_region [0, 1, 2, 3, 4, 5, 6] rfl ?_
    iterate 3 refine at_s T rfl ?_
    refine at_v rfl (g_load T rfl rfl rfl rfl (in_var (j := 1) rfl rfl)) ?_
    iterate 3 refine at_s T rfl ?_
    refine at_end ?_
    refine at_sub [(1, (.pointer (some ⟨b1, 0, none⟩))), (4, (.slice a2 (List.length v1) n2)), (22, (.bool (decide ((List.length v1 : Int) < (w64 (1 + (List.length t.C : Int)))))))] ⟨rfl, rfl, rfl, trivial⟩ ?_
    refine at_then ?_
    refine at_cond rfl (fun c4 => ?_) (fun c4 => ?_)
    · replace H := if_t (of_decide_eq_true c4) H
      refine at_seq ?_
      refine at_region [0, 1, 2] rfl ?_
      iterate 3 refine at_s T rfl ?_
      refine at_end ?_
      refine at_to [(2, (.int .i64 2)), (3, (.slice a2 (List.length v1) n2))] [0, 1] [F, H2] ⟨rfl, rfl, trivial⟩ rfl ?_
      refine at_then ?_
      refine at_ret ?_
      refine at_rt ?_
      obtain rfl := Option.some.inj H
      exact at_post (T := T) rfl (.tmp rfl (.tmp rfl .nil)) (fun w o => ⟨⟨(_, _), ⟨a2, n2, H2, s2, rfl, rfl⟩⟩, rfl, own_to [1, 0] rfl o⟩)
    · replace H := if_f (of_decide_eq_false c4) H
      refine at_skip ?_
      refine at_then ?_
      refine at_seq ?_
      refine at_region [0, 1, 2, 3, 4, 5] rfl ?_
      refine at_cons (at_bs (k := (Fl.int .u8)) T [1] rfl rfl rfl rfl rfl rfl rfl rfl rfl (fun a5 H5 s5 => ?_))
      refine at_s T rfl ?_
      refine at_v rfl (g_load T rfl rfl rfl rfl (in_var (j := 1) rfl rfl)) ?_
      obtain ⟨c5, H⟩ := chk_e H
      refine at_cons (at_ap (k := (Fl.int .u8)) (xs := [1]) T (g := 3) rfl rfl rfl rfl rfl rfl rfl rfl rfl rfl s5 (ro_of h_t_C (j := 0) rfl) c5 rfl (fun a6 n6 H6 s6 => ?_))
      iterate 2 refine at_s T rfl ?_
      refine at_end ?_
      refine at_to [(2, (.int .i64 1)), (3, (.slice a6 (List.length ([1] ++ t.C)) n6))] [0, 2] [F, H6] ⟨rfl, rfl, trivial⟩ rfl ?_
      refine at_then ?_
      refine at_ret ?_
      obtain rfl := Option.some.inj H
      exact at_post (T := T) rfl (.tmp rfl (.tmp rfl .nil)) (fun w o => ⟨⟨(_, _), ⟨a6, n6, H6, s6, rfl, rfl⟩⟩, rfl, own_to [1, 0] rfl o⟩)
end Go.Proofs.Ytfgenmohgfifaaa
