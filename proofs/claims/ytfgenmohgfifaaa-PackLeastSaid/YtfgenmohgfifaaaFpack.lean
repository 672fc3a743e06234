import Derived.Test.YtfgenmohgfifaaaT
import Derived.Test.YtfgenmohgfifaaaFtile
namespace Go.Proofs.Ytfgenmohgfifaaa
open Go.Hx
set_option maxRecDepth 100000
set_option linter.unusedVariables false
/-! ### herdsman/pack.put$1: function 56 -/
def pack_put_1.f (c : Int) (p1 : api_Tile) : Option Bool := if (0 ≤ (0 : Int) ∧ (0 : Int) < (List.length p1.C : Int)) then (some (c != (rd p1.C 0))) else none
set_option maxHeartbeats 4000000 in
theorem pack_put_1.c {b_p1 : Nat} {a_p1_C : Option Addr} {n_p1_C : Nat} (c : Int) (p1 : api_Tile) (r : Bool) (F : Hp) (H : pack_put_1.f c p1 = some r) (m_p1 : (b_p1, Obj.cells #[(.int .i64 p1.W), (.int .i64 p1.H), (.slice a_p1_C (List.length p1.C) n_p1_C)] 24 (0, 0)) ∈ F) (h_p1_C : SliceR (Fl.int .u8) p1.C a_p1_C F) (c_p1_C : List.length p1.C ≤ n_p1_C) :
    CallsL Try.prog 56 [(.int .u8 c), (.pointer (some ⟨b_p1, 0, none⟩))] [F] (fun _ : Unit => (.bool r)) (fun _ => [F]) := by
  unfold pack_put_1.f at H
  refine calls_atL [(0, (.int .u8 c)), (1, (.pointer (some ⟨b_p1, 0, none⟩)))] Try.func56 rfl rfl ⟨rfl, rfl, trivial⟩ (fun W => ?_)
  refine at_seq ?_
  refine at_region [0] rfl ?_
  refine at_s T rfl ?_
  refine at_end ?_
  refine at_sub [(0, (.int .u8 c)), (1, (.pointer (some ⟨b_p1, 0, none⟩)))] ⟨rfl, rfl, trivial⟩ ?_
  refine at_then ?_
  refine at_seq ?_
  refine at_region [0, 1, 2, 3, 4, 5, 6] rfl ?_
  iterate 2 refine at_s T rfl ?_
  refine at_v rfl (g_load T rfl rfl rfl rfl (in_ro (j := 0) m_p1 rfl rfl)) ?_
  obtain ⟨c1, H⟩ := chk_e H
  obtain ⟨q1, o1, e1⟩ := h_p1_C.addr c1.1 c1.2
  refine at_v rfl (g_index T rfl rfl rfl rfl rfl e1 c1.1 c1.2) ?_
  refine at_v rfl (g_load T rfl rfl rfl rfl (in_elem1 (k := (Fl.int .u8)) (ro_of h_p1_C (j := 0) rfl) e1 c1 0 rfl)) ?_
  iterate 2 refine at_s T rfl ?_
  refine at_end ?_
  refine at_sub [(3, (.bool (c != (rd p1.C 0))))] ⟨rfl, trivial⟩ ?_
  refine at_then ?_
  refine at_ret ?_
  obtain rfl := Option.some.inj H
  exact at_post (T := T) rfl (.tmp rfl .nil) (fun w o => ⟨(), rfl, own_to [0] rfl o⟩)

/-! ### slices.IndexFunc[[]byte,byte]: function 57 -/
def slices_IndexFunc_byte_byte.l0 : Nat → (List Int) → api_Tile → Int → Option Int
  | 0, _, _, _ => none
  | k3 + 1, s, p77, x2 => if x2 < (List.length s : Int) then (if (0 ≤ x2 ∧ x2 < (List.length s : Int)) then ((pack_put_1.f (rd s x2) p77).bind fun v4 => if v4 = true then (some x2) else (slices_IndexFunc_byte_byte.l0 k3 s p77 (w64 (x2 + 1)))) else none) else (some (-1))
def slices_IndexFunc_byte_byte.f (s : (List Int)) (p77 : api_Tile) : Option Int := slices_IndexFunc_byte_byte.l0 fuel s p77 0
set_option maxHeartbeats 4000000 in
theorem slices_IndexFunc_byte_byte.c {a_s : Option Addr} {n_s : Nat} {b_p77 : Nat} {a_p77_C : Option Addr} {n_p77_C : Nat} (s : (List Int)) (p77 : api_Tile) (r : Int) (F : Hp) (H : slices_IndexFunc_byte_byte.f s p77 = some r) (h_s : SliceR (Fl.int .u8) s a_s F) (c_s : List.length s ≤ n_s) (m_p77 : (b_p77, Obj.cells #[(.int .i64 p77.W), (.int .i64 p77.H), (.slice a_p77_C (List.length p77.C) n_p77_C)] 24 (0, 0)) ∈ F) (h_p77_C : SliceR (Fl.int .u8) p77.C a_p77_C F) (c_p77_C : List.length p77.C ≤ n_p77_C) :
    CallsL Try.prog 57 [(.slice a_s (List.length s) n_s), (.func (.func 56) #[] #[(.pointer (some ⟨b_p77, 0, none⟩))])] [F] (fun _ : Unit => (.int .i64 r)) (fun _ => [F]) := by
  unfold slices_IndexFunc_byte_byte.f at H
  refine calls_atL [(0, (.slice a_s (List.length s) n_s)), (1, (.func (.func 56) #[] #[(.pointer (some ⟨b_p77, 0, none⟩))]))] Try.func57 rfl rfl ⟨rfl, rfl, trivial⟩ (fun W => ?_)
  refine at_seq ?_
  refine at_region [0] rfl ?_
  refine at_s T rfl ?_
  refine at_end ?_
  refine at_sub [(0, (.slice a_s (List.length s) n_s)), (1, (.func (.func 56) #[] #[(.pointer (some ⟨b_p77, 0, none⟩))]))] ⟨rfl, rfl, trivial⟩ ?_
  refine at_then ?_
  refine at_seq ?_
  refine at_seq ?_
  refine at_region [0, 1, 2] rfl ?_
  iterate 3 refine at_s T rfl ?_
  refine at_end ?_
  refine at_sub [(0, (.slice a_s (List.length s) n_s)), (1, (.func (.func 56) #[] #[(.pointer (some ⟨b_p77, 0, none⟩))])), (7, (.int .i64 (List.length s : Int))), (8, (.int .i64 0))] ⟨rfl, rfl, rfl, rfl, trivial⟩ ?_
  refine at_then ?_
  refine at_block ?_
  refine at_loopL (σ := Nat × Int) (fun ⟨k3, x2⟩ => slices_IndexFunc_byte_byte.l0 k3 s p77 x2 = some r) (fun ⟨k3, x2⟩ => [(0, (.slice a_s (List.length s) n_s)), (1, (.func (.func 56) #[] #[(.pointer (some ⟨b_p77, 0, none⟩))])), (7, (.int .i64 (List.length s : Int))), (8, (.int .i64 x2))]) (fun ⟨k3, x2⟩ => [F]) (fun s => s.1) (fuel, 0) [0] H ⟨rfl, rfl, rfl, rfl, trivial⟩ rfl ?_
  rintro ⟨k3, x2⟩ Z1
  replace Z1 : slices_IndexFunc_byte_byte.l0 k3 s p77 x2 = some r := Z1
  rcases k3 with _ | k3
  · rw [slices_IndexFunc_byte_byte.l0] at Z1; cases Z1
  · rw [slices_IndexFunc_byte_byte.l0] at Z1
    refine at_seq ?_
    refine at_region [0] rfl ?_
    refine at_s T rfl ?_
    refine at_end ?_
    refine at_sub [(0, (.slice a_s (List.length s) n_s)), (1, (.func (.func 56) #[] #[(.pointer (some ⟨b_p77, 0, none⟩))])), (7, (.int .i64 (List.length s : Int))), (8, (.int .i64 x2)), (9, (.bool (decide (x2 < (List.length s : Int)))))] ⟨rfl, rfl, rfl, rfl, rfl, trivial⟩ ?_
    refine at_then ?_
    refine at_seq ?_
    refine at_cond rfl (fun c2 => ?_) (fun c2 => ?_)
    · replace Z1 := if_t (of_decide_eq_true c2) Z1
      refine at_skip ?_
      refine at_then ?_
      refine at_seq ?_
      refine at_block ?_
      refine at_seq ?_
      refine at_region [0, 1] rfl ?_
      iterate 2 refine at_s T rfl ?_
      refine at_end ?_
      refine at_sub [(0, (.slice a_s (List.length s) n_s)), (1, (.func (.func 56) #[] #[(.pointer (some ⟨b_p77, 0, none⟩))])), (5, (.int .i64 x2)), (7, (.int .i64 (List.length s : Int))), (8, (.int .i64 x2))] ⟨rfl, rfl, rfl, rfl, rfl, trivial⟩ ?_
      refine at_then ?_
      refine at_seq ?_
      refine at_region [0, 1, 2, 3, 4, 5] rfl ?_
      iterate 3 refine at_s T rfl ?_
      obtain ⟨c3, Z1⟩ := chk_e Z1
      obtain ⟨q1, o1, e1⟩ := h_s.addr c3.1 c3.2
      refine at_v rfl (g_index T rfl rfl rfl rfl rfl e1 c3.1 c3.2) ?_
      refine at_v rfl (g_load T rfl rfl rfl rfl (in_elem1 (k := (Fl.int .u8)) (ro_of h_s (j := 0) rfl) e1 c3 0 rfl)) ?_
      obtain ⟨v4, V4, Z1⟩ := bind_e Z1
      refine at_cons (at_c (B := fun _ => []) [] rfl rfl rfl rfl has56 rfl rfl (pack_put_1.c (rd s x2) p77 v4 _ V4 (mem_ro m_p77 (j := 0) rfl) (ro_of h_p77_C (j := 0) rfl) c_p77_C) (fun _ => ?_))
      refine at_end ?_
      refine at_sub [(0, (.slice a_s (List.length s) n_s)), (1, (.func (.func 56) #[] #[(.pointer (some ⟨b_p77, 0, none⟩))])), (5, (.int .i64 x2)), (7, (.int .i64 (List.length s : Int))), (8, (.int .i64 x2)), (16, (.bool v4))] ⟨rfl, rfl, rfl, rfl, rfl, rfl, trivial⟩ ?_
      refine at_then ?_
      refine at_cond rfl (fun c5 => ?_) (fun c5 => ?_)
      · replace Z1 := if_t c5 Z1
        refine at_seq ?_
        refine at_region [0, 1] rfl ?_
        iterate 2 refine at_s T rfl ?_
        refine at_end ?_
        refine at_sub [(4, (.int .i64 x2))] ⟨rfl, trivial⟩ ?_
        refine at_then ?_
        refine at_ret ?_
        refine at_rb ?_
        refine at_rt ?_
        refine at_rt ?_
        refine at_rb ?_
        refine at_rt ?_
        obtain rfl := Option.some.inj Z1
        exact at_post (T := T) rfl (.tmp rfl .nil) (fun w o => ⟨(), rfl, own_to [0] rfl o⟩)
      · replace Z1 := if_f (bf c5) Z1
        refine at_skip ?_
        refine at_nb ?_
        refine at_then ?_
        refine at_region [0, 1] rfl ?_
        iterate 2 refine at_s T rfl ?_
        refine at_end ?_
        refine at_sub [(0, (.slice a_s (List.length s) n_s)), (1, (.func (.func 56) #[] #[(.pointer (some ⟨b_p77, 0, none⟩))])), (7, (.int .i64 (List.length s : Int))), (8, (.int .i64 (w64 (x2 + 1))))] ⟨rfl, rfl, rfl, rfl, trivial⟩ ?_
        refine at_then ?_
        exact at_roundL (k3, (w64 (x2 + 1))) [0] Z1 (Nat.lt_succ_self _) ⟨rfl, rfl, rfl, rfl, trivial⟩ rfl
    · replace Z1 := if_f (of_decide_eq_false c2) Z1
      refine at_exit ?_
      refine at_xt ?_
      refine at_xt ?_
      refine at_xb ?_
      refine at_then ?_
      refine at_seq ?_
      refine at_region [0] rfl ?_
      refine at_s T rfl ?_
      refine at_end ?_
      refine at_sub [(4, (.int .i64 (-1)))] ⟨rfl, trivial⟩ ?_
      refine at_then ?_
      refine at_ret ?_
      obtain rfl := Option.some.inj Z1
      exact at_post (T := T) rfl (.tmp rfl .nil) (fun w o => ⟨(), rfl, own_to [0] rfl o⟩)

/-! ### slices.ContainsFunc[[]byte,byte]: function 55 -/
def slices_ContainsFunc_byte_byte.f (s : (List Int)) (p77 : api_Tile) : Option Bool := (slices_IndexFunc_byte_byte.f s p77).bind fun v1 => some (decide (v1 ≥ 0))
set_option maxHeartbeats 4000000 in
theorem slices_ContainsFunc_byte_byte.c {a_s : Option Addr} {n_s : Nat} {b_p77 : Nat} {a_p77_C : Option Addr} {n_p77_C : Nat} (s : (List Int)) (p77 : api_Tile) (r : Bool) (F : Hp) (H : slices_ContainsFunc_byte_byte.f s p77 = some r) (h_s : SliceR (Fl.int .u8) s a_s F) (c_s : List.length s ≤ n_s) (m_p77 : (b_p77, Obj.cells #[(.int .i64 p77.W), (.int .i64 p77.H), (.slice a_p77_C (List.length p77.C) n_p77_C)] 24 (0, 0)) ∈ F) (h_p77_C : SliceR (Fl.int .u8) p77.C a_p77_C F) (c_p77_C : List.length p77.C ≤ n_p77_C) :
    CallsL Try.prog 55 [(.slice a_s (List.length s) n_s), (.func (.func 56) #[] #[(.pointer (some ⟨b_p77, 0, none⟩))])] [F] (fun _ : Unit => (.bool r)) (fun _ => [F]) := by
  unfold slices_ContainsFunc_byte_byte.f at H
  refine calls_atL [(0, (.slice a_s (List.length s) n_s)), (1, (.func (.func 56) #[] #[(.pointer (some ⟨b_p77, 0, none⟩))]))] Try.func55 rfl rfl ⟨rfl, rfl, trivial⟩ (fun W => ?_)
  refine at_seq ?_
  refine at_region [0] rfl ?_
  refine at_s T rfl ?_
  refine at_end ?_
  refine at_sub [(0, (.slice a_s (List.length s) n_s)), (1, (.func (.func 56) #[] #[(.pointer (some ⟨b_p77, 0, none⟩))]))] ⟨rfl, rfl, trivial⟩ ?_
  refine at_then ?_
  refine at_seq ?_
  refine at_region [0, 1, 2, 3, 4] rfl ?_
  iterate 2 refine at_s T rfl ?_
  obtain ⟨v1, V1, H⟩ := bind_e H
  refine at_cons (at_c (B := fun _ => []) [] rfl rfl rfl rfl has57 rfl rfl (slices_IndexFunc_byte_byte.c s p77 v1 _ V1 (ro_of h_s (j := 0) rfl) c_s (mem_ro m_p77 (j := 0) rfl) (ro_of h_p77_C (j := 0) rfl) c_p77_C) (fun _ => ?_))
  iterate 2 refine at_s T rfl ?_
  refine at_end ?_
  refine at_sub [(4, (.bool (decide (v1 ≥ 0))))] ⟨rfl, trivial⟩ ?_
  refine at_then ?_
  refine at_ret ?_
  obtain rfl := Option.some.inj H
  exact at_post (T := T) rfl (.tmp rfl .nil) (fun w o => ⟨(), rfl, own_to [0] rfl o⟩)

/-! ### herdsman/pack.put: function 53 -/
def pack_put.l1 : Nat → api_Tile → Int → Int → Option Int
  | 0, _, _, _ => none
  | k11 + 1, t, x5, x10 => (if (w64 (x5 + x10)) < (List.length t.C : Int) then (if (0 ≤ (w64 (x5 + x10)) ∧ (w64 (x5 + x10)) < (List.length t.C : Int)) then (if (0 ≤ x5 ∧ x5 < (List.length t.C : Int)) then (some ((rd t.C (w64 (x5 + x10))) == (rd t.C x5))) else none) else none) else (some false)).bind fun x12 => if x12 = true then (pack_put.l1 k11 t x5 (w64 (x10 + 1))) else (some x10)
def pack_put.l0 : Nat → api_Tile → List Int → Int → Option (List Int)
  | 0, _, _, _ => none
  | k6 + 1, t, x4, x5 => if x5 < (List.length t.C : Int) then ((pack_put.l1 fuel t x5 1).bind fun x7 => if (0 ≤ x5 ∧ x5 < (List.length t.C : Int)) then (if (List.length x4 + 2 ≤ 1099511627776) then (pack_put.l0 k6 t (x4 ++ [(wu8 (w64 (x7 - 1))), (rd t.C x5)]) (w64 (x5 + x7))) else none) else none) else (some x4)
def pack_put.f (t : api_Tile) (form : Int) : Option (List Int) := if (form == 0) = true then ((slices_ContainsFunc_byte_byte.f t.C t).bind fun v1 => if v1 = true then (some []) else (if (0 ≤ (0 : Int) ∧ (0 : Int) < (List.length t.C : Int)) then (if (List.length [(wu8 form)] + 1 ≤ 1099511627776) then (some ([(wu8 form)] ++ [(rd t.C 0)])) else none) else none)) else (if (form == 1) = true then (if (List.length [(wu8 form)] + List.length t.C ≤ 1099511627776) then (some ([(wu8 form)] ++ t.C)) else none) else (pack_put.l0 fuel t [(wu8 form)] 0))
def pack_put.R (r : (List Int)) (u : Value) (G : List Hp) : Prop := ∃ (a0 : Option Addr) (n0 : Nat) (H0 : Hp), SliceO (Fl.int .u8) 5 r a0 n0 H0 ∧ (r = [] → a0 = none) ∧ u = (.slice a0 (List.length r) n0) ∧ G = [H0]
set_option maxHeartbeats 4000000 in
theorem pack_put.c {a_t_C : Option Addr} {n_t_C : Nat} (t : api_Tile) (form : Int) (r : (List Int)) (F : Hp) (H : pack_put.f t form = some r) (h_t_C : SliceR (Fl.int .u8) t.C a_t_C F) (c_t_C : List.length t.C ≤ n_t_C) :
    CallsL Try.prog 53 [(.agg #[(.int .i64 t.W), (.int .i64 t.H), (.slice a_t_C (List.length t.C) n_t_C)]), (.int .i64 form)] [F] (fun p : { p : Value × List Hp // pack_put.R r p.1 p.2 } => p.1.1) (fun p => (p.1.2 ++ []) ++ [F]) := by
  unfold pack_put.f at H
  refine calls_atL [(0, (.agg #[(.int .i64 t.W), (.int .i64 t.H), (.slice a_t_C (List.length t.C) n_t_C)])), (1, (.int .i64 form))] Try.func53 rfl rfl ⟨rfl, rfl, trivial⟩ (fun W => ?_)
  refine at_seq ?_
  refine at_region [0, 1] rfl ?_
  refine at_cons (at_bx T [(.int .i64 t.W), (.int .i64 t.H), (.slice a_t_C (List.length t.C) n_t_C)] rfl rfl rfl rfl (fun b1 => ?_))
  refine at_s T rfl ?_
  refine at_end ?_
  refine at_sub [(1, (.int .i64 form)), (2, (.pointer (some ⟨b1, 0, none⟩)))] ⟨rfl, rfl, trivial⟩ ?_
  refine at_then ?_
  refine at_seq ?_
  refine at_region [0, 1, 2, 3] rfl ?_
  iterate 2 refine at_s T rfl ?_
  refine at_cons (at_bs (k := (Fl.int .u8)) T [(wu8 form)] rfl rfl rfl rfl rfl rfl rfl rfl rfl (fun a2 H2 s2 => ?_))
  refine at_s T rfl ?_
  refine at_end ?_
  refine at_sub [(1, (.int .i64 form)), (2, (.pointer (some ⟨b1, 0, none⟩))), (5, (.slice a2 (List.length [(wu8 form)]) (List.length [(wu8 form)])))] ⟨rfl, rfl, rfl, trivial⟩ ?_
  refine at_then ?_
  refine at_seq ?_
  refine at_seq ?_
  refine at_region [0] rfl ?_
  refine at_s T rfl ?_
  refine at_end ?_
  refine at_sub [(2, (.pointer (some ⟨b1, 0, none⟩))), (5, (.slice a2 (List.length [(wu8 form)]) (List.length [(wu8 form)]))), (11, (.int .i64 form))] ⟨rfl, rfl, rfl, trivial⟩ ?_
  refine at_then ?_
  refine at_block ?_
  refine at_seq ?_
  refine at_region [0, 1] rfl ?_
  iterate 2 refine at_s T rfl ?_
  refine at_end ?_
  refine at_sub [(2, (.pointer (some ⟨b1, 0, none⟩))), (5, (.slice a2 (List.length [(wu8 form)]) (List.length [(wu8 form)]))), (11, (.int .i64 form)), (12, (.bool (form == 0)))] ⟨rfl, rfl, rfl, rfl, trivial⟩ ?_
  refine at_then ?_
  refine at_cond rfl (fun c1 => ?_) (fun c1 => ?_)
  · replace H := if_t c1 H
    refine at_seq ?_
    refine at_seq ?_
    refine at_region [0, 1, 2, 3] rfl ?_
    refine at_s T rfl ?_
    refine at_v rfl (g_load T rfl rfl rfl rfl (in_var (j := 1) rfl rfl)) ?_
    refine at_s T rfl ?_
    obtain ⟨v1, V2, H⟩ := bind_e H
    refine at_cons (at_c (B := fun _ => []) [] rfl rfl rfl rfl has55 rfl rfl (slices_ContainsFunc_byte_byte.c t.C t v1 _ V2 (ro_of h_t_C (j := 0) rfl) c_t_C (mem_own (j := 1) rfl) (ro_of h_t_C (j := 0) rfl) c_t_C) (fun _ => ?_))
    refine at_end ?_
    refine at_sub [(2, (.pointer (some ⟨b1, 0, none⟩))), (5, (.slice a2 (List.length [(wu8 form)]) (List.length [(wu8 form)]))), (17, (.bool v1))] ⟨rfl, rfl, rfl, trivial⟩ ?_
    refine at_then ?_
    refine at_cond rfl (fun c3 => ?_) (fun c3 => ?_)
    · replace H := if_t c3 H
      refine at_seq ?_
      refine at_region [0] rfl ?_
      refine at_s T rfl ?_
      refine at_end ?_
      refine at_to [(4, (.slice none 0 0))] [0] [F] ⟨rfl, trivial⟩ rfl ?_
      refine at_then ?_
      refine at_ret ?_
      refine at_rt ?_
      refine at_rb ?_
      refine at_rt ?_
      obtain rfl := Option.some.inj H
      refine at_addnil ?_
      exact at_post (T := T) rfl (.tmp rfl .nil) (fun w o => ⟨⟨(_, _), ⟨none, 0, [], SliceO.nil, (fun _ => rfl), rfl, rfl⟩⟩, rfl, own_to [1, 0] rfl o⟩)
    · replace H := if_f (bf c3) H
      refine at_skip ?_
      refine at_then ?_
      refine at_seq ?_
      refine at_region [0, 1, 2, 3, 4, 5, 6, 7] rfl ?_
      iterate 2 refine at_s T rfl ?_
      refine at_v rfl (g_load T rfl rfl rfl rfl (in_var (j := 1) rfl rfl)) ?_
      obtain ⟨c4, H⟩ := chk_e H
      obtain ⟨q4, o4, e4⟩ := h_t_C.addr c4.1 c4.2
      refine at_v rfl (g_index T rfl rfl rfl rfl rfl e4 c4.1 c4.2) ?_
      refine at_v rfl (g_load T rfl rfl rfl rfl (in_elem1 (k := (Fl.int .u8)) (ro_of h_t_C (j := 0) rfl) e4 c4 0 rfl)) ?_
      refine at_cons (at_bs (k := (Fl.int .u8)) T [(rd t.C 0)] rfl rfl rfl rfl rfl rfl rfl rfl rfl (fun a5 H5 s5 => ?_))
      obtain ⟨c5, H⟩ := chk_e H
      refine at_cons (at_ap (k := (Fl.int .u8)) (xs := [(wu8 form)]) T (g := 2) rfl rfl rfl rfl rfl rfl rfl rfl rfl rfl s2 (own_of s5 (j := 3) rfl) c5 rfl (fun a6 n6 H6 s6 => ?_))
      refine at_s T rfl ?_
      refine at_end ?_
      refine at_to [(4, (.slice a6 (List.length ([(wu8 form)] ++ [(rd t.C 0)])) n6))] [0, 1] [F, H6] ⟨rfl, trivial⟩ rfl ?_
      refine at_then ?_
      refine at_ret ?_
      refine at_rb ?_
      refine at_rt ?_
      obtain rfl := Option.some.inj H
      exact at_post (T := T) rfl (.tmp rfl .nil) (fun w o => ⟨⟨(_, _), ⟨a6, n6, H6, s6, (no_nil_app (.inr rfl)), rfl, rfl⟩⟩, rfl, own_to [1, 0] rfl o⟩)
  · replace H := if_f (bf c1) H
    refine at_seq ?_
    refine at_region [0, 1] rfl ?_
    iterate 2 refine at_s T rfl ?_
    refine at_end ?_
    refine at_sub [(2, (.pointer (some ⟨b1, 0, none⟩))), (5, (.slice a2 (List.length [(wu8 form)]) (List.length [(wu8 form)]))), (25, (.bool (form == 1)))] ⟨rfl, rfl, rfl, trivial⟩ ?_
    refine at_then ?_
    refine at_cond rfl (fun c6 => ?_) (fun c6 => ?_)
    · replace H := if_t c6 H
      refine at_seq ?_
      refine at_region [0, 1, 2, 3, 4] rfl ?_
      iterate 2 refine at_s T rfl ?_
      refine at_v rfl (g_load T rfl rfl rfl rfl (in_var (j := 1) rfl rfl)) ?_
      obtain ⟨c7, H⟩ := chk_e H
      refine at_cons (at_ap (k := (Fl.int .u8)) (xs := [(wu8 form)]) T (g := 2) rfl rfl rfl rfl rfl rfl rfl rfl rfl rfl s2 (ro_of h_t_C (j := 0) rfl) c7 rfl (fun a7 n7 H7 s7 => ?_))
      refine at_s T rfl ?_
      refine at_end ?_
      refine at_to [(4, (.slice a7 (List.length ([(wu8 form)] ++ t.C)) n7))] [0, 1] [F, H7] ⟨rfl, trivial⟩ rfl ?_
      refine at_then ?_
      refine at_ret ?_
      refine at_rb ?_
      refine at_rt ?_
      obtain rfl := Option.some.inj H
      exact at_post (T := T) rfl (.tmp rfl .nil) (fun w o => ⟨⟨(_, _), ⟨a7, n7, H7, s7, (no_nil_app (.inl rfl)), rfl, rfl⟩⟩, rfl, own_to [1, 0] rfl o⟩)
    · replace H := if_f (bf c6) H
      refine at_skip ?_
      refine at_nb ?_
      refine at_then ?_
      refine at_seq ?_
      refine at_seq ?_
      refine at_region [0] rfl ?_
      refine at_s T rfl ?_
      refine at_end ?_
      refine at_sub [(2, (.pointer (some ⟨b1, 0, none⟩))), (5, (.slice a2 (List.length [(wu8 form)]) (List.length [(wu8 form)]))), (6, (.int .i64 0))] ⟨rfl, rfl, rfl, trivial⟩ ?_
      refine at_then ?_
      refine at_block ?_
      refine at_loopL (σ := Nat × List Int × Int × Option Addr × Nat × Hp) (fun ⟨k6, x4, x5, a9, n9, H9⟩ => pack_put.l0 k6 t x4 x5 = some r ∧ SliceO (Fl.int .u8) 5 x4 a9 n9 H9 ∧ (x4 = [] → a9 = none)) (fun ⟨k6, x4, x5, a9, n9, H9⟩ => [(2, (.pointer (some ⟨b1, 0, none⟩))), (5, (.slice a9 (List.length x4) n9)), (6, (.int .i64 x5))]) (fun ⟨k6, x4, x5, a9, n9, H9⟩ => [F, [(b1, Obj.cells #[(.int .i64 t.W), (.int .i64 t.H), (.slice a_t_C (List.length t.C) n_t_C)] 24 (0, 0))], H9]) (fun s => s.1) (fuel, [(wu8 form)], 0, a2, (List.length [(wu8 form)]), H2) [0, 0, 0] ⟨H, s2, (fun e => by cases e)⟩ ⟨rfl, rfl, rfl, trivial⟩ rfl ?_
      rintro ⟨k6, x4, x5, a9, n9, H9⟩ ⟨Z8, s9, r9⟩
      replace Z8 : pack_put.l0 k6 t x4 x5 = some r := Z8
      rcases k6 with _ | k6
      · rw [pack_put.l0] at Z8; cases Z8
      · rw [pack_put.l0] at Z8
        refine at_seq ?_
        refine at_seq ?_
        refine at_region [0, 1, 2, 3, 4] rfl ?_
        iterate 2 refine at_s T rfl ?_
        refine at_v rfl (g_load T rfl rfl rfl rfl (in_var (j := 1) rfl rfl)) ?_
        iterate 2 refine at_s T rfl ?_
        refine at_end ?_
        refine at_sub [(2, (.pointer (some ⟨b1, 0, none⟩))), (5, (.slice a9 (List.length x4) n9)), (6, (.int .i64 x5)), (35, (.bool (decide (x5 < (List.length t.C : Int)))))] ⟨rfl, rfl, rfl, rfl, trivial⟩ ?_
        refine at_then ?_
        refine at_cond rfl (fun c9 => ?_) (fun c9 => ?_)
        · replace Z8 := if_t (of_decide_eq_true c9) Z8
          refine at_skip ?_
          refine at_then ?_
          refine at_block ?_
          refine at_seq ?_
          refine at_region [0] rfl ?_
          refine at_s T rfl ?_
          refine at_end ?_
          refine at_sub [(2, (.pointer (some ⟨b1, 0, none⟩))), (5, (.slice a9 (List.length x4) n9)), (6, (.int .i64 x5)), (7, (.int .i64 1))] ⟨rfl, rfl, rfl, rfl, trivial⟩ ?_
          refine at_then ?_
          obtain ⟨z8, Z10, Z8⟩ := bind_e Z8
          refine at_seq_mid (σ := Int) (fun x7 => x7 = z8) (fun x7 => [(2, (.pointer (some ⟨b1, 0, none⟩))), (5, (.slice a9 (List.length x4) n9)), (6, (.int .i64 x5)), (7, (.int .i64 x7))]) (fun x7 => [F, [(b1, Obj.cells #[(.int .i64 t.W), (.int .i64 t.H), (.slice a_t_C (List.length t.C) n_t_C)] 24 (0, 0))], H9]) ?_ ?_
          · refine at_block ?_
            refine at_loopL (σ := Nat × Int) (fun ⟨k11, x10⟩ => pack_put.l1 k11 t x5 x10 = some z8) (fun ⟨k11, x10⟩ => [(2, (.pointer (some ⟨b1, 0, none⟩))), (5, (.slice a9 (List.length x4) n9)), (6, (.int .i64 x5)), (7, (.int .i64 x10))]) (fun ⟨k11, x10⟩ => [F, [(b1, Obj.cells #[(.int .i64 t.W), (.int .i64 t.H), (.slice a_t_C (List.length t.C) n_t_C)] 24 (0, 0))], H9]) (fun s => s.1) (fuel, 1) [0, 0, 0] Z10 ⟨rfl, rfl, rfl, rfl, trivial⟩ rfl ?_
            rintro ⟨k11, x10⟩ Z11
            replace Z11 : pack_put.l1 k11 t x5 x10 = some z8 := Z11
            rcases k11 with _ | k11
            · rw [pack_put.l1] at Z11; cases Z11
            · rw [pack_put.l1] at Z11
              refine at_seq ?_
              obtain ⟨z13, Z12, Z11⟩ := bind_e Z11
              refine at_seq_mid (σ := Bool) (fun x12 => x12 = z13) (fun x12 => [(2, (.pointer (some ⟨b1, 0, none⟩))), (5, (.slice a9 (List.length x4) n9)), (6, (.int .i64 x5)), (7, (.int .i64 x10)), (57, (.bool x12))]) (fun x12 => [F, [(b1, Obj.cells #[(.int .i64 t.W), (.int .i64 t.H), (.slice a_t_C (List.length t.C) n_t_C)] 24 (0, 0))], H9]) ?_ ?_
              · refine at_region_q mix (by kernel_rfl) ?_
                iterate 4 refine atq_s T rfl ?_
                refine atq_v rfl rfl rfl (g_load T rfl rfl rfl rfl (in_var (j := 1) rfl rfl)) ?_
                iterate 3 refine atq_s T rfl ?_
                refine atq_case (s := 43) rfl (fun c13 => ?_) (fun c13 => ?_)
                · replace Z12 := if_t (of_decide_eq_true c13) Z12
                  refine atq_s T rfl ?_
                  refine atq_v rfl rfl rfl (g_load T rfl rfl rfl rfl (in_var (j := 1) rfl rfl)) ?_
                  iterate 3 refine atq_s T rfl ?_
                  obtain ⟨c14, Z12⟩ := chk_e Z12
                  obtain ⟨q10, o10, e10⟩ := h_t_C.addr c14.1 c14.2
                  refine atq_v rfl rfl rfl (g_index T rfl rfl rfl rfl rfl e10 c14.1 c14.2) ?_
                  refine atq_v rfl rfl rfl (g_load T rfl rfl rfl rfl (in_elem1 (k := (Fl.int .u8)) (ro_of h_t_C (j := 0) rfl) e10 c14 0 rfl)) ?_
                  refine atq_s T rfl ?_
                  refine atq_v rfl rfl rfl (g_load T rfl rfl rfl rfl (in_var (j := 1) rfl rfl)) ?_
                  refine atq_s T rfl ?_
                  obtain ⟨c15, Z12⟩ := chk_e Z12
                  refine atq_v rfl rfl rfl (g_index T rfl rfl rfl rfl rfl e10 c15.1 c15.2) ?_
                  refine atq_v rfl rfl rfl (g_load T rfl rfl rfl rfl (in_elem1 (k := (Fl.int .u8)) (ro_of h_t_C (j := 0) rfl) e10 c15 0 rfl)) ?_
                  iterate 2 refine atq_s T rfl ?_
                  refine atq_end ?_
                  refine at_sub [(2, (.pointer (some ⟨b1, 0, none⟩))), (5, (.slice a9 (List.length x4) n9)), (6, (.int .i64 x5)), (7, (.int .i64 x10)), (57, (.bool ((rd t.C (w64 (x5 + x10))) == (rd t.C x5))))] ⟨rfl, rfl, rfl, rfl, rfl, trivial⟩ ?_
                  refine at_then ?_
                  obtain rfl := Option.some.inj Z12
                  exact at_mid ((rd t.C (w64 (x5 + x10))) == (rd t.C x5)) [0, 0, 0] rfl ⟨rfl, rfl, rfl, rfl, rfl, trivial⟩ rfl
                · replace Z12 := if_f (of_decide_eq_false c13) Z12
                  iterate 14 refine atq_s T rfl ?_
                  refine atq_end ?_
                  refine at_sub [(2, (.pointer (some ⟨b1, 0, none⟩))), (5, (.slice a9 (List.length x4) n9)), (6, (.int .i64 x5)), (7, (.int .i64 x10)), (57, (.bool false))] ⟨rfl, rfl, rfl, rfl, rfl, trivial⟩ ?_
                  refine at_then ?_
                  obtain rfl := Option.some.inj Z12
                  exact at_mid false [0, 0, 0] rfl ⟨rfl, rfl, rfl, rfl, rfl, trivial⟩ rfl
              · rintro x12 rfl
                refine at_cond rfl (fun c16 => ?_) (fun c16 => ?_)
                · replace Z11 := if_t c16 Z11
                  refine at_skip ?_
                  refine at_then ?_
                  refine at_block ?_
                  refine at_region [0, 1, 2] rfl ?_
                  iterate 3 refine at_s T rfl ?_
                  refine at_end ?_
                  refine at_sub [(2, (.pointer (some ⟨b1, 0, none⟩))), (5, (.slice a9 (List.length x4) n9)), (6, (.int .i64 x5)), (7, (.int .i64 (w64 (x10 + 1))))] ⟨rfl, rfl, rfl, rfl, trivial⟩ ?_
                  refine at_nb ?_
                  refine at_then ?_
                  exact at_roundL (k11, (w64 (x10 + 1))) [0, 0, 0] Z11 (Nat.lt_succ_self _) ⟨rfl, rfl, rfl, rfl, trivial⟩ rfl
                · replace Z11 := if_f (bf c16) Z11
                  refine at_exit ?_
                  refine at_xt ?_
                  refine at_xt ?_
                  refine at_xb ?_
                  refine at_then ?_
                  obtain rfl := Option.some.inj Z11
                  exact at_mid x10 [0, 0, 0] rfl ⟨rfl, rfl, rfl, rfl, trivial⟩ rfl
          · rintro x7 rfl
            refine at_seq ?_
            refine at_region [0, 1, 2, 3, 4, 5, 6, 7, 8, 9, 10, 11] rfl ?_
            iterate 5 refine at_s T rfl ?_
            refine at_v rfl (g_load T rfl rfl rfl rfl (in_var (j := 1) rfl rfl)) ?_
            refine at_s T rfl ?_
            obtain ⟨c17, Z8⟩ := chk_e Z8
            obtain ⟨q11, o11, e11⟩ := h_t_C.addr c17.1 c17.2
            refine at_v rfl (g_index T rfl rfl rfl rfl rfl e11 c17.1 c17.2) ?_
            refine at_v rfl (g_load T rfl rfl rfl rfl (in_elem1 (k := (Fl.int .u8)) (ro_of h_t_C (j := 0) rfl) e11 c17 0 rfl)) ?_
            refine at_cons (at_bs (k := (Fl.int .u8)) T [(wu8 (w64 (x7 - 1))), (rd t.C x5)] rfl rfl rfl rfl rfl rfl rfl rfl rfl (fun a12 H12 s12 => ?_))
            obtain ⟨c18, Z8⟩ := chk_e Z8
            refine at_cons (at_ap (k := (Fl.int .u8)) (xs := x4) T (g := 2) rfl rfl rfl rfl rfl rfl rfl rfl rfl rfl s9 (own_of s12 (j := 3) rfl) c18 rfl (fun a13 n13 H13 s13 => ?_))
            refine at_s T rfl ?_
            refine at_end ?_
            refine at_to [(2, (.pointer (some ⟨b1, 0, none⟩))), (5, (.slice a13 (List.length (x4 ++ [(wu8 (w64 (x7 - 1))), (rd t.C x5)])) n13)), (6, (.int .i64 x5)), (7, (.int .i64 x7))] [0, 0, 0] [F, [(b1, Obj.cells #[(.int .i64 t.W), (.int .i64 t.H), (.slice a_t_C (List.length t.C) n_t_C)] 24 (0, 0))], H13] ⟨rfl, rfl, rfl, rfl, trivial⟩ rfl ?_
            refine at_then ?_
            refine at_region [0, 1, 2, 3] rfl ?_
            iterate 4 refine at_s T rfl ?_
            refine at_end ?_
            refine at_sub [(2, (.pointer (some ⟨b1, 0, none⟩))), (5, (.slice a13 (List.length (x4 ++ [(wu8 (w64 (x7 - 1))), (rd t.C x5)])) n13)), (6, (.int .i64 (w64 (x5 + x7))))] ⟨rfl, rfl, rfl, trivial⟩ ?_
            refine at_nb ?_
            refine at_then ?_
            exact at_roundL (k6, (x4 ++ [(wu8 (w64 (x7 - 1))), (rd t.C x5)]), (w64 (x5 + x7)), a13, n13, H13) [0, 0, 0] ⟨Z8, s13, (no_nil_app (.inr rfl))⟩ (Nat.lt_succ_self _) ⟨rfl, rfl, rfl, trivial⟩ rfl
        · replace Z8 := if_f (of_decide_eq_false c9) Z8
          refine at_exit ?_
          refine at_xt ?_
          refine at_xt ?_
          refine at_xb ?_
          refine at_then ?_
          refine at_seq ?_
          refine at_region [0, 1] rfl ?_
          iterate 2 refine at_s T rfl ?_
          refine at_end ?_
          refine at_to [(4, (.slice a9 (List.length x4) n9))] [0, 1] [F, H9] ⟨rfl, trivial⟩ rfl ?_
          refine at_then ?_
          refine at_ret ?_
          obtain rfl := Option.some.inj Z8
          exact at_post (T := T) rfl (.tmp rfl .nil) (fun w o => ⟨⟨(_, _), ⟨a9, n9, H9, s9, r9, rfl, rfl⟩⟩, rfl, own_to [1, 0] rfl o⟩)

/-! ### herdsman/pack.least: function 45 -/
def pack_least.l0 : Nat → api_Tile → Int → List Int → Int → Option (Int × (List Int))
  | 0, _, _, _, _ => none
  | k7 + 1, t, x4, x5, x6 => if x6 < 3 then ((pack_put.f t x6).bind fun v8 => (if (!List.isEmpty v8) = true then (if (List.isEmpty x5) = true then (some true) else (some (decide ((List.length v8 : Int) < (List.length x5 : Int))))) else (some false)).bind fun x9 => if x9 = true then (pack_least.l0 k7 t x6 v8 (w64 (x6 + 1))) else (pack_least.l0 k7 t x4 x5 (w64 (x6 + 1)))) else (some (x4, x5))
def pack_least.f (t : api_Tile) : Option (Int × (List Int)) := pack_least.l0 fuel t (-1) [] 0
def pack_least.R (r : (Int × (List Int))) (u : Value) (G : List Hp) : Prop := ∃ (a0 : Option Addr) (n0 : Nat) (H0 : Hp), SliceO (Fl.int .u8) 5 r.2 a0 n0 H0 ∧ (r.2 = [] → a0 = none) ∧ u = (.tuple #[(.int .i64 r.1), (.slice a0 (List.length r.2) n0)]) ∧ G = [H0]
set_option maxHeartbeats 4000000 in
theorem pack_least.c {a_t_C : Option Addr} {n_t_C : Nat} (t : api_Tile) (r : (Int × (List Int))) (F : Hp) (H : pack_least.f t = some r) (h_t_C : SliceR (Fl.int .u8) t.C a_t_C F) (c_t_C : List.length t.C ≤ n_t_C) :
    CallsL Try.prog 45 [(.agg #[(.int .i64 t.W), (.int .i64 t.H), (.slice a_t_C (List.length t.C) n_t_C)])] [F] (fun p : { p : Value × List Hp // pack_least.R r p.1 p.2 } => p.1.1) (fun p => (p.1.2 ++ []) ++ [F]) := by
  unfold pack_least.f at H
  refine calls_atL [(0, (.agg #[(.int .i64 t.W), (.int .i64 t.H), (.slice a_t_C (List.length t.C) n_t_C)]))] Try.func45 rfl rfl ⟨rfl, trivial⟩ (fun W => ?_)
  refine at_seq ?_
  refine at_region [0, 1, 2] rfl ?_
  refine at_cons (at_bx T [(.int .i64 t.W), (.int .i64 t.H), (.slice a_t_C (List.length t.C) n_t_C)] rfl rfl rfl rfl (fun b1 => ?_))
  iterate 2 refine at_s T rfl ?_
  refine at_end ?_
  refine at_sub [(1, (.pointer (some ⟨b1, 0, none⟩)))] ⟨rfl, trivial⟩ ?_
  refine at_then ?_
  refine at_seq ?_
  refine at_region [0, 1] rfl ?_
  iterate 2 refine at_s T rfl ?_
  refine at_end ?_
  refine at_sub [(1, (.pointer (some ⟨b1, 0, none⟩))), (4, (.int .i64 (-1))), (5, (.slice none 0 0))] ⟨rfl, rfl, rfl, trivial⟩ ?_
  refine at_then ?_
  refine at_seq ?_
  refine at_seq ?_
  refine at_region [0] rfl ?_
  refine at_s T rfl ?_
  refine at_end ?_
  refine at_sub [(1, (.pointer (some ⟨b1, 0, none⟩))), (4, (.int .i64 (-1))), (5, (.slice none 0 0)), (8, (.int .i64 0))] ⟨rfl, rfl, rfl, rfl, trivial⟩ ?_
  refine at_then ?_
  refine at_block ?_
  refine at_addnil ?_
  refine at_loopL (σ := Nat × Int × List Int × Int × Option Addr × Nat × Hp) (fun ⟨k7, x4, x5, x6, a3, n3, H3⟩ => pack_least.l0 k7 t x4 x5 x6 = some r ∧ SliceO (Fl.int .u8) 5 x5 a3 n3 H3 ∧ (x5 = [] → a3 = none)) (fun ⟨k7, x4, x5, x6, a3, n3, H3⟩ => [(1, (.pointer (some ⟨b1, 0, none⟩))), (4, (.int .i64 x4)), (5, (.slice a3 (List.length x5) n3)), (8, (.int .i64 x6))]) (fun ⟨k7, x4, x5, x6, a3, n3, H3⟩ => [F, [(b1, Obj.cells #[(.int .i64 t.W), (.int .i64 t.H), (.slice a_t_C (List.length t.C) n_t_C)] 24 (0, 0))], H3]) (fun s => s.1) (fuel, (-1), [], 0, none, 0, []) [0, 0, 0] ⟨H, SliceO.nil, (fun _ => rfl)⟩ ⟨rfl, rfl, rfl, rfl, trivial⟩ rfl ?_
  rintro ⟨k7, x4, x5, x6, a3, n3, H3⟩ ⟨Z1, s3, r3⟩
  replace Z1 : pack_least.l0 k7 t x4 x5 x6 = some r := Z1
  rcases k7 with _ | k7
  · rw [pack_least.l0] at Z1; cases Z1
  · rw [pack_least.l0] at Z1
    refine at_seq ?_
    refine at_region [0] rfl ?_
    refine at_s T rfl ?_
    refine at_end ?_
    refine at_sub [(1, (.pointer (some ⟨b1, 0, none⟩))), (4, (.int .i64 x4)), (5, (.slice a3 (List.length x5) n3)), (8, (.int .i64 x6)), (9, (.bool (decide (x6 < 3))))] ⟨rfl, rfl, rfl, rfl, rfl, trivial⟩ ?_
    refine at_then ?_
    refine at_seq ?_
    refine at_cond rfl (fun c2 => ?_) (fun c2 => ?_)
    · replace Z1 := if_t (of_decide_eq_true c2) Z1
      refine at_skip ?_
      refine at_then ?_
      refine at_seq ?_
      refine at_block ?_
      refine at_seq ?_
      refine at_region [0, 1] rfl ?_
      iterate 2 refine at_s T rfl ?_
      refine at_end ?_
      refine at_sub [(1, (.pointer (some ⟨b1, 0, none⟩))), (4, (.int .i64 x4)), (5, (.slice a3 (List.length x5) n3)), (6, (.int .i64 x6)), (8, (.int .i64 x6))] ⟨rfl, rfl, rfl, rfl, rfl, trivial⟩ ?_
      refine at_then ?_
      refine at_seq ?_
      refine at_region [0, 1, 2, 3] rfl ?_
      refine at_v rfl (g_loadA T (cs := [(.int .i64 t.W), (.int .i64 t.H), (.slice a_t_C (List.length t.C) n_t_C)]) rfl rfl rfl rfl rfl rfl (in_varA (j := 1) rfl rfl)) ?_
      refine at_s T rfl ?_
      obtain ⟨v8, V3, Z1⟩ := bind_e Z1
      refine at_cons (at_cR (pack_put.R v8) [] [] rfl rfl rfl rfl has53 rfl rfl (pack_put.c t x6 v8 _ V3 (ro_of h_t_C (j := 0) rfl) c_t_C) ?_)
      rintro _ _ ⟨a4, n4, H4, s4, r4, rfl, rfl⟩
      refine at_s T rfl ?_
      refine at_end ?_
      refine at_sub [(1, (.pointer (some ⟨b1, 0, none⟩))), (4, (.int .i64 x4)), (5, (.slice a3 (List.length x5) n3)), (6, (.int .i64 x6)), (7, (.slice a4 (List.length v8) n4)), (8, (.int .i64 x6))] ⟨rfl, rfl, rfl, rfl, rfl, rfl, trivial⟩ ?_
      refine at_then ?_
      obtain ⟨z10, Z4, Z1⟩ := bind_e Z1
      refine at_seq_mid (σ := Bool) (fun x9 => x9 = z10) (fun x9 => [(1, (.pointer (some ⟨b1, 0, none⟩))), (4, (.int .i64 x4)), (5, (.slice a3 (List.length x5) n3)), (6, (.int .i64 x6)), (7, (.slice a4 (List.length v8) n4)), (8, (.int .i64 x6)), (26, (.bool x9))]) (fun x9 => [F, [(b1, Obj.cells #[(.int .i64 t.W), (.int .i64 t.H), (.slice a_t_C (List.length t.C) n_t_C)] 24 (0, 0))], H3, H4]) ?_ ?_
      · refine at_region [0, 1, 2, 3, 4, 5, 6, 7, 8, 9, 10, 11, 12] rfl ?_
        refine at_s T rfl ?_
        refine at_v rfl (g_isnoll T rfl rfl rfl rfl s4 r4) ?_
        refine at_s T rfl ?_
        refine at_case (s := 16) rfl (fun c5 => ?_) (fun c5 => ?_)
        · replace Z4 := if_t c5 Z4
          refine at_s T rfl ?_
          refine at_v rfl (g_isnil T rfl rfl rfl rfl s3 r3) ?_
          refine at_s T rfl ?_
          refine at_case (s := 19) rfl (fun c6 => ?_) (fun c6 => ?_)
          · replace Z4 := if_t c6 Z4
            iterate 7 refine at_s T rfl ?_
            refine at_end ?_
            refine at_sub [(1, (.pointer (some ⟨b1, 0, none⟩))), (4, (.int .i64 x4)), (5, (.slice a3 (List.length x5) n3)), (6, (.int .i64 x6)), (7, (.slice a4 (List.length v8) n4)), (8, (.int .i64 x6)), (26, (.bool true))] ⟨rfl, rfl, rfl, rfl, rfl, rfl, rfl, trivial⟩ ?_
            refine at_then ?_
            obtain rfl := Option.some.inj Z4
            exact at_mid true [0, 0, 0, 0] rfl ⟨rfl, rfl, rfl, rfl, rfl, rfl, rfl, trivial⟩ rfl
          · replace Z4 := if_f (bf c6) Z4
            iterate 7 refine at_s T rfl ?_
            refine at_end ?_
            refine at_sub [(1, (.pointer (some ⟨b1, 0, none⟩))), (4, (.int .i64 x4)), (5, (.slice a3 (List.length x5) n3)), (6, (.int .i64 x6)), (7, (.slice a4 (List.length v8) n4)), (8, (.int .i64 x6)), (26, (.bool (decide ((List.length v8 : Int) < (List.length x5 : Int)))))] ⟨rfl, rfl, rfl, rfl, rfl, rfl, rfl, trivial⟩ ?_
            refine at_then ?_
            obtain rfl := Option.some.inj Z4
            exact at_mid (decide ((List.length v8 : Int) < (List.length x5 : Int))) [0, 0, 0, 0] rfl ⟨rfl, rfl, rfl, rfl, rfl, rfl, rfl, trivial⟩ rfl
        · replace Z4 := if_f (bf c5) Z4
          iterate 10 refine at_s T rfl ?_
          refine at_end ?_
          refine at_sub [(1, (.pointer (some ⟨b1, 0, none⟩))), (4, (.int .i64 x4)), (5, (.slice a3 (List.length x5) n3)), (6, (.int .i64 x6)), (7, (.slice a4 (List.length v8) n4)), (8, (.int .i64 x6)), (26, (.bool false))] ⟨rfl, rfl, rfl, rfl, rfl, rfl, rfl, trivial⟩ ?_
          refine at_then ?_
          obtain rfl := Option.some.inj Z4
          exact at_mid false [0, 0, 0, 0] rfl ⟨rfl, rfl, rfl, rfl, rfl, rfl, rfl, trivial⟩ rfl
      · rintro x9 rfl
        refine at_cond rfl (fun c7 => ?_) (fun c7 => ?_)
        · replace Z1 := if_t c7 Z1
          refine at_region [0, 1, 2, 3] rfl ?_
          iterate 4 refine at_s T rfl ?_
          refine at_end ?_
          refine at_to [(1, (.pointer (some ⟨b1, 0, none⟩))), (4, (.int .i64 x6)), (5, (.slice a4 (List.length v8) n4)), (8, (.int .i64 x6))] [0, 0, 1] [F, [(b1, Obj.cells #[(.int .i64 t.W), (.int .i64 t.H), (.slice a_t_C (List.length t.C) n_t_C)] 24 (0, 0))], H4] ⟨rfl, rfl, rfl, rfl, trivial⟩ rfl ?_
          refine at_nb ?_
          refine at_then ?_
          refine at_region [0, 1] rfl ?_
          iterate 2 refine at_s T rfl ?_
          refine at_end ?_
          refine at_sub [(1, (.pointer (some ⟨b1, 0, none⟩))), (4, (.int .i64 x6)), (5, (.slice a4 (List.length v8) n4)), (8, (.int .i64 (w64 (x6 + 1))))] ⟨rfl, rfl, rfl, rfl, trivial⟩ ?_
          refine at_then ?_
          exact at_roundL (k7, x6, v8, (w64 (x6 + 1)), a4, n4, H4) [0, 0, 0] ⟨Z1, s4, r4⟩ (Nat.lt_succ_self _) ⟨rfl, rfl, rfl, rfl, trivial⟩ rfl
        · replace Z1 := if_f (bf c7) Z1
          refine at_skip ?_
          refine at_nb ?_
          refine at_then ?_
          refine at_region [0, 1] rfl ?_
          iterate 2 refine at_s T rfl ?_
          refine at_end ?_
          refine at_to [(1, (.pointer (some ⟨b1, 0, none⟩))), (4, (.int .i64 x4)), (5, (.slice a3 (List.length x5) n3)), (8, (.int .i64 (w64 (x6 + 1))))] [0, 0, 0] [F, [(b1, Obj.cells #[(.int .i64 t.W), (.int .i64 t.H), (.slice a_t_C (List.length t.C) n_t_C)] 24 (0, 0))], H3] ⟨rfl, rfl, rfl, rfl, trivial⟩ rfl ?_
          refine at_then ?_
          exact at_roundL (k7, x4, x5, (w64 (x6 + 1)), a3, n3, H3) [0, 0, 0] ⟨Z1, s3, r3⟩ (Nat.lt_succ_self _) ⟨rfl, rfl, rfl, rfl, trivial⟩ rfl
    · replace Z1 := if_f (of_decide_eq_false c2) Z1
      refine at_exit ?_
      refine at_xt ?_
      refine at_xt ?_
      refine at_xb ?_
      refine at_then ?_
      refine at_seq ?_
      refine at_region [0, 1, 2, 3] rfl ?_
      iterate 4 refine at_s T rfl ?_
      refine at_end ?_
      refine at_to [(2, (.int .i64 x4)), (3, (.slice a3 (List.length x5) n3))] [0, 1] [F, H3] ⟨rfl, rfl, trivial⟩ rfl ?_
      refine at_then ?_
      refine at_ret ?_
      obtain rfl := Option.some.inj Z1
      exact at_post (T := T) rfl (.tmp rfl (.tmp rfl .nil)) (fun w o => ⟨⟨(_, _), ⟨a3, n3, H3, s3, r3, rfl, rfl⟩⟩, rfl, own_to [1, 0] rfl o⟩)

/-! ### herdsman/pack.Put: function 12 -/
def pack_Put.f (t : api_Tile) : Option ((List Int) × Int) := (tile_May.f t).bind fun v1 => if (!v1) = true then (some ([], 1)) else ((pack_least.f t).bind fun v2 => some (v2.2, 0))
def pack_Put.R (r : ((List Int) × Int)) (u : Value) (G : List Hp) : Prop := ∃ (a0 : Option Addr) (n0 : Nat) (H0 : Hp), SliceO (Fl.int .u8) 5 r.1 a0 n0 H0 ∧ u = (.tuple #[(.slice a0 (List.length r.1) n0), (.int .i64 r.2)]) ∧ G = [H0]
set_option maxHeartbeats 4000000 in
theorem pack_Put.c {a_t_C : Option Addr} {n_t_C : Nat} (t : api_Tile) (r : ((List Int) × Int)) (F : Hp) (H : pack_Put.f t = some r) (h_t_C : SliceR (Fl.int .u8) t.C a_t_C F) (c_t_C : List.length t.C ≤ n_t_C) :
    CallsL Try.prog 12 [(.agg #[(.int .i64 t.W), (.int .i64 t.H), (.slice a_t_C (List.length t.C) n_t_C)])] [F] (fun p : { p : Value × List Hp // pack_Put.R r p.1 p.2 } => p.1.1) (fun p => (p.1.2 ++ []) ++ [F]) := by
  unfold pack_Put.f at H
  refine calls_atL [(0, (.agg #[(.int .i64 t.W), (.int .i64 t.H), (.slice a_t_C (List.length t.C) n_t_C)]))] Try.func12 rfl rfl ⟨rfl, trivial⟩ (fun W => ?_)
  refine at_seq ?_
  refine at_region [0, 1, 2] rfl ?_
  refine at_cons (at_bx T [(.int .i64 t.W), (.int .i64 t.H), (.slice a_t_C (List.length t.C) n_t_C)] rfl rfl rfl rfl (fun b1 => ?_))
  iterate 2 refine at_s T rfl ?_
  refine at_end ?_
  refine at_sub [(1, (.pointer (some ⟨b1, 0, none⟩)))] ⟨rfl, trivial⟩ ?_
  refine at_then ?_
  refine at_seq ?_
  refine at_seq ?_
  refine at_region [0, 1, 2] rfl ?_
  refine at_v rfl (g_loadA T (cs := [(.int .i64 t.W), (.int .i64 t.H), (.slice a_t_C (List.length t.C) n_t_C)]) rfl rfl rfl rfl rfl rfl (in_varA (j := 1) rfl rfl)) ?_
  obtain ⟨v1, V1, H⟩ := bind_e H
  refine at_cons (at_c (B := fun _ => []) [] rfl rfl rfl rfl has44 rfl rfl (tile_May.c t v1 _ V1 (ro_of h_t_C (j := 0) rfl) c_t_C) (fun _ => ?_))
  refine at_s T rfl ?_
  refine at_end ?_
  refine at_sub [(1, (.pointer (some ⟨b1, 0, none⟩))), (8, (.bool (!v1)))] ⟨rfl, rfl, trivial⟩ ?_
  refine at_then ?_
  refine at_cond rfl (fun c2 => ?_) (fun c2 => ?_)
  · replace H := if_t c2 H
    refine at_seq ?_
    refine at_region [0, 1] rfl ?_
    iterate 2 refine at_s T rfl ?_
    refine at_end ?_
    refine at_to [(2, (.slice none 0 0)), (3, (.int .i64 1))] [0] [F] ⟨rfl, rfl, trivial⟩ rfl ?_
    refine at_then ?_
    refine at_ret ?_
    refine at_rt ?_
    obtain rfl := Option.some.inj H
    refine at_addnil ?_
    exact at_post (T := T) rfl (.tmp rfl (.tmp rfl .nil)) (fun w o => ⟨⟨(_, _), ⟨none, 0, [], SliceO.nil, rfl, rfl⟩⟩, rfl, own_to [1, 0] rfl o⟩)
  · replace H := if_f (bf c2) H
    refine at_skip ?_
    refine at_then ?_
    refine at_seq ?_
    refine at_region [0, 1, 2, 3, 4, 5, 6] rfl ?_
    refine at_v rfl (g_loadA T (cs := [(.int .i64 t.W), (.int .i64 t.H), (.slice a_t_C (List.length t.C) n_t_C)]) rfl rfl rfl rfl rfl rfl (in_varA (j := 1) rfl rfl)) ?_
    obtain ⟨v2, V3, H⟩ := bind_e H
    refine at_cons (at_cR (pack_least.R v2) [] [] rfl rfl rfl rfl has45 rfl rfl (pack_least.c t v2 _ V3 (ro_of h_t_C (j := 0) rfl) c_t_C) ?_)
    rintro _ _ ⟨a3, n3, H3, s3, r3, rfl, rfl⟩
    iterate 5 refine at_s T rfl ?_
    refine at_end ?_
    refine at_to [(5, (.slice a3 (List.length v2.2) n3))] [0, 1] [F, H3] ⟨rfl, trivial⟩ rfl ?_
    refine at_then ?_
    refine at_seq ?_
    refine at_region [0, 1, 2] rfl ?_
    iterate 3 refine at_s T rfl ?_
    refine at_end ?_
    refine at_sub [(2, (.slice a3 (List.length v2.2) n3)), (3, (.int .i64 0))] ⟨rfl, rfl, trivial⟩ ?_
    refine at_then ?_
    refine at_ret ?_
    obtain rfl := Option.some.inj H
    exact at_post (T := T) rfl (.tmp rfl (.tmp rfl .nil)) (fun w o => ⟨⟨(_, _), ⟨a3, n3, H3, s3, rfl, rfl⟩⟩, rfl, own_to [1, 0] rfl o⟩)

/-! ### herdsman/pack.Form: function 14 -/
def pack_Form.f (t : api_Tile) : Option Int := (tile_May.f t).bind fun v1 => if (!v1) = true then (some (-1)) else ((pack_least.f t).bind fun v2 => some v2.1)
set_option maxHeartbeats 4000000 in
theorem pack_Form.c {a_t_C : Option Addr} {n_t_C : Nat} (t : api_Tile) (r : Int) (F : Hp) (H : pack_Form.f t = some r) (h_t_C : SliceR (Fl.int .u8) t.C a_t_C F) (c_t_C : List.length t.C ≤ n_t_C) :
    CallsL Try.prog 14 [(.agg #[(.int .i64 t.W), (.int .i64 t.H), (.slice a_t_C (List.length t.C) n_t_C)])] [F] (fun _ : Unit => (.int .i64 r)) (fun _ => [F]) := by
  unfold pack_Form.f at H
  refine calls_atL [(0, (.agg #[(.int .i64 t.W), (.int .i64 t.H), (.slice a_t_C (List.length t.C) n_t_C)]))] Try.func14 rfl rfl ⟨rfl, trivial⟩ (fun W => ?_)
  refine at_seq ?_
  refine at_region [0, 1] rfl ?_
  refine at_cons (at_bx T [(.int .i64 t.W), (.int .i64 t.H), (.slice a_t_C (List.length t.C) n_t_C)] rfl rfl rfl rfl (fun b1 => ?_))
  refine at_s T rfl ?_
  refine at_end ?_
  refine at_sub [(1, (.pointer (some ⟨b1, 0, none⟩)))] ⟨rfl, trivial⟩ ?_
  refine at_then ?_
  refine at_seq ?_
  refine at_seq ?_
  refine at_region [0, 1, 2] rfl ?_
  refine at_v rfl (g_loadA T (cs := [(.int .i64 t.W), (.int .i64 t.H), (.slice a_t_C (List.length t.C) n_t_C)]) rfl rfl rfl rfl rfl rfl (in_varA (j := 1) rfl rfl)) ?_
  obtain ⟨v1, V1, H⟩ := bind_e H
  refine at_cons (at_c (B := fun _ => []) [] rfl rfl rfl rfl has44 rfl rfl (tile_May.c t v1 _ V1 (ro_of h_t_C (j := 0) rfl) c_t_C) (fun _ => ?_))
  refine at_s T rfl ?_
  refine at_end ?_
  refine at_sub [(1, (.pointer (some ⟨b1, 0, none⟩))), (7, (.bool (!v1)))] ⟨rfl, rfl, trivial⟩ ?_
  refine at_then ?_
  refine at_cond rfl (fun c2 => ?_) (fun c2 => ?_)
  · replace H := if_t c2 H
    refine at_seq ?_
    refine at_region [0] rfl ?_
    refine at_s T rfl ?_
    refine at_end ?_
    refine at_to [(2, (.int .i64 (-1)))] [0] [F] ⟨rfl, trivial⟩ rfl ?_
    refine at_then ?_
    refine at_ret ?_
    refine at_rt ?_
    obtain rfl := Option.some.inj H
    exact at_post (T := T) rfl (.tmp rfl .nil) (fun w o => ⟨(), rfl, own_to [0] rfl o⟩)
  · replace H := if_f (bf c2) H
    refine at_skip ?_
    refine at_then ?_
    refine at_seq ?_
    refine at_region [0, 1, 2, 3, 4, 5, 6] rfl ?_
    refine at_v rfl (g_loadA T (cs := [(.int .i64 t.W), (.int .i64 t.H), (.slice a_t_C (List.length t.C) n_t_C)]) rfl rfl rfl rfl rfl rfl (in_varA (j := 1) rfl rfl)) ?_
    obtain ⟨v2, V3, H⟩ := bind_e H
    refine at_cons (at_cR (pack_least.R v2) [] [] rfl rfl rfl rfl has45 rfl rfl (pack_least.c t v2 _ V3 (ro_of h_t_C (j := 0) rfl) c_t_C) ?_)
    rintro _ _ ⟨a2, n2, H2, s2, r2, rfl, rfl⟩
    iterate 5 refine at_s T rfl ?_
    refine at_end ?_
    refine at_to [(3, (.int .i64 v2.1))] [0] [F] ⟨rfl, trivial⟩ rfl ?_
    refine at_then ?_
    refine at_seq ?_
    refine at_region [0, 1] rfl ?_
    iterate 2 refine at_s T rfl ?_
    refine at_end ?_
    refine at_sub [(2, (.int .i64 v2.1))] ⟨rfl, trivial⟩ ?_
    refine at_then ?_
    refine at_ret ?_
    obtain rfl := Option.some.inj H
    exact at_post (T := T) rfl (.tmp rfl .nil) (fun w o => ⟨(), rfl, own_to [0] rfl o⟩)
end Go.Proofs.Ytfgenmohgfifaaa
