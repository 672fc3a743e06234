import Derived.Test.YtnkdnecilkafhaaDoorT
import Derived.Test.YtnkdnecilkafhaaDoorFbytes
import Derived.Test.YtnkdnecilkafhaaDoorFslices
import Derived.Test.YtnkdnecilkafhaaDoorFtile
namespace Go.Proofs.YtnkdnecilkafhaaDoor
open Go.Hx
set_option maxRecDepth 100000
set_option linter.unusedVariables false
noncomputable section
/-! ### herdsman/pack.put$1: function 72 -/
def pack_put_1.f (c : Int) (p1 : api_Map) : Option Bool := if (0 ≤ (0 : Int) ∧ (0 : Int) < (List.length p1.C : Int)) then (some (c != (rd p1.C 0))) else none
set_option maxHeartbeats 4000000 in
theorem pack_put_1.c {b_p1 : Nat} {a_p1_C : Option Addr} {n_p1_C : Nat} (c : Int) (p1 : api_Map) (r : Bool) (F : Hp) (H : pack_put_1.f c p1 = some r) (m_p1 : (b_p1, Obj.cells #[(.int .i64 p1.W), (.int .i64 p1.H), (.slice a_p1_C (List.length p1.C) n_p1_C)] 41 (0, 0)) ∈ F) (h_p1_C : SliceR (Fl.int .u8) p1.C a_p1_C F) (c_p1_C : List.length p1.C ≤ n_p1_C) :
    CallsL Tryd.prog 72 [(.int .u8 c), (.pointer (some ⟨b_p1, 0, none⟩))] [F] (fun _ : Unit => (.bool r)) (fun _ => [F]) := by
  unfold pack_put_1.f at H
  refine calls_atL [(0, (.int .u8 c)), (1, (.pointer (some ⟨b_p1, 0, none⟩)))] Tryd.func72 rfl rfl ⟨rfl, rfl, trivial⟩ (fun W => ?_)
  refine at_seq ?_
  refine at_region [0] rfl ?_
  refine at_s T rfl ?_
  refine at_end ?_
  refine at_sub [(0, (.int .u8 c)), (1, (.pointer (some ⟨b_p1, 0, none⟩)))] ⟨rfl, rfl, trivial⟩ ?_
  refine at_then ?_
  refine at_seq ?_
  refine at_region [0, 1, 2, 3, 4, 5, 6] rfl ?_
  iterate 2 refine at_s T rfl ?_
  refine at_v rfl (g_load T rfl rfl rfl rfl (in_ro (j := 0) m_p1 rfl rfl)) ?_
  obtain ⟨c1, H⟩ := chk_e H
  obtain ⟨q1, o1, e1⟩ := h_p1_C.addr c1.1 c1.2
  refine at_v rfl (g_index T rfl rfl rfl rfl rfl e1 c1.1 c1.2) ?_
  refine at_v rfl (g_load T rfl rfl rfl rfl (in_elem1 (k := (Fl.int .u8)) (ro_of h_p1_C (j := 0) rfl) e1 c1 0 rfl)) ?_
  iterate 2 refine at_s T rfl ?_
  refine at_end ?_
  refine at_sub [(3, (.bool (c != (rd p1.C 0))))] ⟨rfl, trivial⟩ ?_
  refine at_then ?_
  refine at_ret ?_
  obtain rfl := Option.some.inj H
  exact at_post (T := T) rfl (.tmp rfl .nil) (fun w o => ⟨(), rfl, own_to [0] rfl o⟩)

/-! ### slices.IndexFunc[[]byte,byte]: function 78 -/
def slices_IndexFunc_byte_byte.l0 : Nat → (List Int) → api_Map → Int → Option Int
  | 0, _, _, _ => none
  | k3 + 1, s, p77, x2 => if x2 < (List.length s : Int) then (if (0 ≤ x2 ∧ x2 < (List.length s : Int)) then ((pack_put_1.f (rd s x2) p77).bind fun v4 => if v4 = true then (some x2) else (slices_IndexFunc_byte_byte.l0 k3 s p77 (w64 (x2 + 1)))) else none) else (some (-1))
def slices_IndexFunc_byte_byte.f (s : (List Int)) (p77 : api_Map) : Option Int := slices_IndexFunc_byte_byte.l0 fuel s p77 0
set_option maxHeartbeats 4000000 in
theorem slices_IndexFunc_byte_byte.c {a_s : Option Addr} {n_s : Nat} {b_p77 : Nat} {a_p77_C : Option Addr} {n_p77_C : Nat} (s : (List Int)) (p77 : api_Map) (r : Int) (F : Hp) (H : slices_IndexFunc_byte_byte.f s p77 = some r) (h_s : SliceR (Fl.int .u8) s a_s F) (c_s : List.length s ≤ n_s) (m_p77 : (b_p77, Obj.cells #[(.int .i64 p77.W), (.int .i64 p77.H), (.slice a_p77_C (List.length p77.C) n_p77_C)] 41 (0, 0)) ∈ F) (h_p77_C : SliceR (Fl.int .u8) p77.C a_p77_C F) (c_p77_C : List.length p77.C ≤ n_p77_C) :
    CallsL Tryd.prog 78 [(.slice a_s (List.length s) n_s), (.func (.func 72) #[] #[(.pointer (some ⟨b_p77, 0, none⟩))])] [F] (fun _ : Unit => (.int .i64 r)) (fun _ => [F]) := by
  unfold slices_IndexFunc_byte_byte.f at H
  refine calls_atL [(0, (.slice a_s (List.length s) n_s)), (1, (.func (.func 72) #[] #[(.pointer (some ⟨b_p77, 0, none⟩))]))] Tryd.func78 rfl rfl ⟨rfl, rfl, trivial⟩ (fun W => ?_)
  refine at_seq ?_
  refine at_region [0] rfl ?_
  refine at_s T rfl ?_
  refine at_end ?_
  refine at_sub [(0, (.slice a_s (List.length s) n_s)), (1, (.func (.func 72) #[] #[(.pointer (some ⟨b_p77, 0, none⟩))]))] ⟨rfl, rfl, trivial⟩ ?_
  refine at_then ?_
  refine at_seq ?_
  refine at_seq ?_
  refine at_region [0, 1, 2] rfl ?_
  iterate 3 refine at_s T rfl ?_
  refine at_end ?_
  refine at_sub [(0, (.slice a_s (List.length s) n_s)), (1, (.func (.func 72) #[] #[(.pointer (some ⟨b_p77, 0, none⟩))])), (7, (.int .i64 (List.length s : Int))), (8, (.int .i64 0))] ⟨rfl, rfl, rfl, rfl, trivial⟩ ?_
  refine at_then ?_
  refine at_block ?_
  refine at_loopL (σ := Nat × Int) (fun ⟨k3, x2⟩ => slices_IndexFunc_byte_byte.l0 k3 s p77 x2 = some r) (fun ⟨k3, x2⟩ => [(0, (.slice a_s (List.length s) n_s)), (1, (.func (.func 72) #[] #[(.pointer (some ⟨b_p77, 0, none⟩))])), (7, (.int .i64 (List.length s : Int))), (8, (.int .i64 x2))]) (fun ⟨k3, x2⟩ => [F]) (fun s => s.1) (fuel, 0) [0] H ⟨rfl, rfl, rfl, rfl, trivial⟩ rfl ?_
  rintro ⟨k3, x2⟩ Z1
  replace Z1 : slices_IndexFunc_byte_byte.l0 k3 s p77 x2 = some r := Z1
  rcases k3 with _ | k3
  · rw [slices_IndexFunc_byte_byte.l0] at Z1; cases Z1
  · rw [slices_IndexFunc_byte_byte.l0] at Z1
    refine at_seq ?_
    refine at_region [0] rfl ?_
    refine at_s T rfl ?_
    refine at_end ?_
    refine at_sub [(0, (.slice a_s (List.length s) n_s)), (1, (.func (.func 72) #[] #[(.pointer (some ⟨b_p77, 0, none⟩))])), (7, (.int .i64 (List.length s : Int))), (8, (.int .i64 x2)), (9, (.bool (decide (x2 < (List.length s : Int)))))] ⟨rfl, rfl, rfl, rfl, rfl, trivial⟩ ?_
    refine at_then ?_
    refine at_seq ?_
    refine at_cond rfl (fun c2 => ?_) (fun c2 => ?_)
    · replace Z1 := if_t (of_decide_eq_true c2) Z1
      refine at_skip ?_
      refine at_then ?_
      refine at_seq ?_
      refine at_block ?_
      refine at_seq ?_
      refine at_region [0, 1] rfl ?_
      iterate 2 refine at_s T rfl ?_
      refine at_end ?_
      refine at_sub [(0, (.slice a_s (List.length s) n_s)), (1, (.func (.func 72) #[] #[(.pointer (some ⟨b_p77, 0, none⟩))])), (5, (.int .i64 x2)), (7, (.int .i64 (List.length s : Int))), (8, (.int .i64 x2))] ⟨rfl, rfl, rfl, rfl, rfl, trivial⟩ ?_
      refine at_then ?_
      refine at_seq ?_
      refine at_region [0, 1, 2, 3, 4, 5] rfl ?_
      iterate 3 refine at_s T rfl ?_
      obtain ⟨c3, Z1⟩ := chk_e Z1
      obtain ⟨q1, o1, e1⟩ := h_s.addr c3.1 c3.2
      refine at_v rfl (g_index T rfl rfl rfl rfl rfl e1 c3.1 c3.2) ?_
      refine at_v rfl (g_load T rfl rfl rfl rfl (in_elem1 (k := (Fl.int .u8)) (ro_of h_s (j := 0) rfl) e1 c3 0 rfl)) ?_
      obtain ⟨v4, V4, Z1⟩ := bind_e Z1
      refine at_cons (at_c (B := fun _ => []) [] rfl rfl rfl rfl has72 rfl rfl (pack_put_1.c (rd s x2) p77 v4 _ V4 (mem_ro m_p77 (j := 0) rfl) (ro_of h_p77_C (j := 0) rfl) c_p77_C) (fun _ => ?_))
      refine at_end ?_
      refine at_sub [(0, (.slice a_s (List.length s) n_s)), (1, (.func (.func 72) #[] #[(.pointer (some ⟨b_p77, 0, none⟩))])), (5, (.int .i64 x2)), (7, (.int .i64 (List.length s : Int))), (8, (.int .i64 x2)), (16, (.bool v4))] ⟨rfl, rfl, rfl, rfl, rfl, rfl, trivial⟩ ?_
      refine at_then ?_
      refine at_cond rfl (fun c5 => ?_) (fun c5 => ?_)
      · replace Z1 := if_t c5 Z1
        refine at_seq ?_
        refine at_region [0, 1] rfl ?_
        iterate 2 refine at_s T rfl ?_
        refine at_end ?_
        refine at_sub [(4, (.int .i64 x2))] ⟨rfl, trivial⟩ ?_
        refine at_then ?_
        refine at_ret ?_
        refine at_rb ?_
        refine at_rt ?_
        refine at_rt ?_
        refine at_rb ?_
        refine at_rt ?_
        obtain rfl := Option.some.inj Z1
        exact at_post (T := T) rfl (.tmp rfl .nil) (fun w o => ⟨(), rfl, own_to [0] rfl o⟩)
      · replace Z1 := if_f (bf c5) Z1
        refine at_skip ?_
        refine at_nb ?_
        refine at_then ?_
        refine at_region [0, 1] rfl ?_
        iterate 2 refine at_s T rfl ?_
        refine at_end ?_
        refine at_sub [(0, (.slice a_s (List.length s) n_s)), (1, (.func (.func 72) #[] #[(.pointer (some ⟨b_p77, 0, none⟩))])), (7, (.int .i64 (List.length s : Int))), (8, (.int .i64 (w64 (x2 + 1))))] ⟨rfl, rfl, rfl, rfl, trivial⟩ ?_
        refine at_then ?_
        exact at_roundL (k3, (w64 (x2 + 1))) [0] Z1 (Nat.lt_succ_self _) ⟨rfl, rfl, rfl, rfl, trivial⟩ rfl
    · replace Z1 := if_f (of_decide_eq_false c2) Z1
      refine at_exit ?_
      refine at_xt ?_
      refine at_xt ?_
      refine at_xb ?_
      refine at_then ?_
      refine at_seq ?_
      refine at_region [0] rfl ?_
      refine at_s T rfl ?_
      refine at_end ?_
      refine at_sub [(4, (.int .i64 (-1)))] ⟨rfl, trivial⟩ ?_
      refine at_then ?_
      refine at_ret ?_
      obtain rfl := Option.some.inj Z1
      exact at_post (T := T) rfl (.tmp rfl .nil) (fun w o => ⟨(), rfl, own_to [0] rfl o⟩)

/-! ### slices.ContainsFunc[[]byte,byte]: function 71 -/
def slices_ContainsFunc_byte_byte.f (s : (List Int)) (p77 : api_Map) : Option Bool := (slices_IndexFunc_byte_byte.f s p77).bind fun v1 => some (decide (v1 ≥ 0))
set_option maxHeartbeats 4000000 in
theorem slices_ContainsFunc_byte_byte.c {a_s : Option Addr} {n_s : Nat} {b_p77 : Nat} {a_p77_C : Option Addr} {n_p77_C : Nat} (s : (List Int)) (p77 : api_Map) (r : Bool) (F : Hp) (H : slices_ContainsFunc_byte_byte.f s p77 = some r) (h_s : SliceR (Fl.int .u8) s a_s F) (c_s : List.length s ≤ n_s) (m_p77 : (b_p77, Obj.cells #[(.int .i64 p77.W), (.int .i64 p77.H), (.slice a_p77_C (List.length p77.C) n_p77_C)] 41 (0, 0)) ∈ F) (h_p77_C : SliceR (Fl.int .u8) p77.C a_p77_C F) (c_p77_C : List.length p77.C ≤ n_p77_C) :
    CallsL Tryd.prog 71 [(.slice a_s (List.length s) n_s), (.func (.func 72) #[] #[(.pointer (some ⟨b_p77, 0, none⟩))])] [F] (fun _ : Unit => (.bool r)) (fun _ => [F]) := by
  unfold slices_ContainsFunc_byte_byte.f at H
  refine calls_atL [(0, (.slice a_s (List.length s) n_s)), (1, (.func (.func 72) #[] #[(.pointer (some ⟨b_p77, 0, none⟩))]))] Tryd.func71 rfl rfl ⟨rfl, rfl, trivial⟩ (fun W => ?_)
  refine at_seq ?_
  refine at_region [0] rfl ?_
  refine at_s T rfl ?_
  refine at_end ?_
  refine at_sub [(0, (.slice a_s (List.length s) n_s)), (1, (.func (.func 72) #[] #[(.pointer (some ⟨b_p77, 0, none⟩))]))] ⟨rfl, rfl, trivial⟩ ?_
  refine at_then ?_
  refine at_seq ?_
  refine at_region [0, 1, 2, 3, 4] rfl ?_
  iterate 2 refine at_s T rfl ?_
  obtain ⟨v1, V1, H⟩ := bind_e H
  refine at_cons (at_c (B := fun _ => []) [] rfl rfl rfl rfl has78 rfl rfl (slices_IndexFunc_byte_byte.c s p77 v1 _ V1 (ro_of h_s (j := 0) rfl) c_s (mem_ro m_p77 (j := 0) rfl) (ro_of h_p77_C (j := 0) rfl) c_p77_C) (fun _ => ?_))
  iterate 2 refine at_s T rfl ?_
  refine at_end ?_
  refine at_sub [(4, (.bool (decide (v1 ≥ 0))))] ⟨rfl, trivial⟩ ?_
  refine at_then ?_
  refine at_ret ?_
  obtain rfl := Option.some.inj H
  exact at_post (T := T) rfl (.tmp rfl .nil) (fun w o => ⟨(), rfl, own_to [0] rfl o⟩)

/-! ### herdsman/pack.put: function 66 -/
def pack_put.l1 : Nat → api_Map → Int → Int → Option Int
  | 0, _, _, _ => none
  | k14 + 1, t, x5, x13 => (if (w64 (x5 + x13)) < (List.length t.C : Int) then (if (0 ≤ (w64 (x5 + x13)) ∧ (w64 (x5 + x13)) < (List.length t.C : Int)) then (if (0 ≤ x5 ∧ x5 < (List.length t.C : Int)) then (some ((rd t.C (w64 (x5 + x13))) == (rd t.C x5))) else none) else none) else (some false)).bind fun x15 => if x15 = true then (pack_put.l1 k14 t x5 (w64 (x13 + 1))) else (some x13)
def pack_put.l0 : Nat → api_Map → List Int → Int → Option (List Int)
  | 0, _, _, _ => none
  | k6 + 1, t, x4, x5 => if x5 < (List.length t.C : Int) then (((pack_put.l1 fuel t x5 1).bind fun x10 => if (0 ≤ x5 ∧ x5 < (List.length t.C : Int)) then (if (List.length x4 + 2 ≤ 1099511627776) then (some ((x4 ++ [(wu8 (w64 (x10 - 1))), (rd t.C x5)]), (w64 (x5 + x10)))) else none) else none).bind fun (x7, x8) => pack_put.l0 k6 t x7 x8) else (some x4)
def pack_put.f (t : api_Map) (form : Int) : Option (List Int) := if (form == 0) = true then ((slices_ContainsFunc_byte_byte.f t.C t).bind fun v1 => if v1 = true then (some []) else (if (0 ≤ (0 : Int) ∧ (0 : Int) < (List.length t.C : Int)) then (if (List.length [(wu8 form)] + 1 ≤ 1099511627776) then (some ([(wu8 form)] ++ [(rd t.C 0)])) else none) else none)) else (if (form == 1) = true then (if (List.length [(wu8 form)] + List.length t.C ≤ 1099511627776) then (some ([(wu8 form)] ++ t.C)) else none) else (pack_put.l0 fuel t [(wu8 form)] 0))
def pack_put.R (r : (List Int)) (u : Value) (G : List Hp) : Prop := ∃ (a0 : Option Addr) (n0 : Nat) (H0 : Hp), SliceO (Fl.int .u8) 5 r a0 n0 H0 ∧ (r = [] → a0 = none) ∧ u = (.slice a0 (List.length r) n0) ∧ G = [H0]
set_option maxHeartbeats 4000000 in
theorem pack_put.c {a_t_C : Option Addr} {n_t_C : Nat} (t : api_Map) (form : Int) (r : (List Int)) (F : Hp) (H : pack_put.f t form = some r) (h_t_C : SliceR (Fl.int .u8) t.C a_t_C F) (c_t_C : List.length t.C ≤ n_t_C) :
    CallsL Tryd.prog 66 [(.agg #[(.int .i64 t.W), (.int .i64 t.H), (.slice a_t_C (List.length t.C) n_t_C)]), (.int .i64 form)] [F] (fun qp : { qp : Value × List Hp // pack_put.R r qp.1 qp.2 } => qp.1.1) (fun qp => (qp.1.2 ++ []) ++ [F]) := by
  unfold pack_put.f at H
  refine calls_atL [(0, (.agg #[(.int .i64 t.W), (.int .i64 t.H), (.slice a_t_C (List.length t.C) n_t_C)])), (1, (.int .i64 form))] Tryd.func66 rfl rfl ⟨rfl, rfl, trivial⟩ (fun W => ?_)
  refine at_seq ?_
  refine at_region [0, 1] rfl ?_
  refine at_cons (at_bx T [(.int .i64 t.W), (.int .i64 t.H), (.slice a_t_C (List.length t.C) n_t_C)] rfl rfl rfl rfl (fun b1 => ?_))
  refine at_s T rfl ?_
  refine at_end ?_
  refine at_sub [(1, (.int .i64 form)), (2, (.pointer (some ⟨b1, 0, none⟩)))] ⟨rfl, rfl, trivial⟩ ?_
  refine at_then ?_
  refine at_seq ?_
  refine at_region [0, 1, 2, 3] rfl ?_
  iterate 2 refine at_s T rfl ?_
  refine at_cons (at_bs (k := (Fl.int .u8)) T [(wu8 form)] rfl rfl rfl rfl rfl rfl rfl rfl rfl (fun a2 H2 s2 => ?_))
  refine at_s T rfl ?_
  refine at_end ?_
  refine at_sub [(1, (.int .i64 form)), (2, (.pointer (some ⟨b1, 0, none⟩))), (5, (.slice a2 (List.length [(wu8 form)]) (List.length [(wu8 form)])))] ⟨rfl, rfl, rfl, trivial⟩ ?_
  refine at_then ?_
  refine at_seq ?_
  refine at_seq ?_
  refine at_region [0] rfl ?_
  refine at_s T rfl ?_
  refine at_end ?_
  refine at_sub [(2, (.pointer (some ⟨b1, 0, none⟩))), (5, (.slice a2 (List.length [(wu8 form)]) (List.length [(wu8 form)]))), (11, (.int .i64 form))] ⟨rfl, rfl, rfl, trivial⟩ ?_
  refine at_then ?_
  refine at_block ?_
  refine at_seq ?_
  refine at_region [0, 1] rfl ?_
  iterate 2 refine at_s T rfl ?_
  refine at_end ?_
  refine at_sub [(2, (.pointer (some ⟨b1, 0, none⟩))), (5, (.slice a2 (List.length [(wu8 form)]) (List.length [(wu8 form)]))), (11, (.int .i64 form)), (12, (.bool (form == 0)))] ⟨rfl, rfl, rfl, rfl, trivial⟩ ?_
  refine at_then ?_
  refine at_cond rfl (fun c1 => ?_) (fun c1 => ?_)
  · replace H := if_t c1 H
    refine at_seq ?_
    refine at_seq ?_
    refine at_region [0, 1, 2, 3] rfl ?_
    refine at_s T rfl ?_
    refine at_v rfl (g_load T rfl rfl rfl rfl (in_var (j := 1) rfl rfl)) ?_
    refine at_s T rfl ?_
    obtain ⟨v1, V2, H⟩ := bind_e H
    refine at_cons (at_c (B := fun _ => []) [] rfl rfl rfl rfl has71 rfl rfl (slices_ContainsFunc_byte_byte.c t.C t v1 _ V2 (ro_of h_t_C (j := 0) rfl) c_t_C (mem_own (j := 1) rfl) (ro_of h_t_C (j := 0) rfl) c_t_C) (fun _ => ?_))
    refine at_end ?_
    refine at_sub [(2, (.pointer (some ⟨b1, 0, none⟩))), (5, (.slice a2 (List.length [(wu8 form)]) (List.length [(wu8 form)]))), (17, (.bool v1))] ⟨rfl, rfl, rfl, trivial⟩ ?_
    refine at_then ?_
    refine at_cond rfl (fun c3 => ?_) (fun c3 => ?_)
    · replace H := if_t c3 H
      refine at_seq ?_
      refine at_region [0] rfl ?_
      refine at_s T rfl ?_
      refine at_end ?_
      refine at_to [(4, (.slice none 0 0))] [0] [F] ⟨rfl, trivial⟩ rfl ?_
      refine at_then ?_
      refine at_ret ?_
      refine at_rt ?_
      refine at_rb ?_
      refine at_rt ?_
      obtain rfl := Option.some.inj H
      refine at_addnil ?_
      exact at_post (T := T) rfl (.tmp rfl .nil) (fun w o => ⟨⟨(_, _), ⟨none, 0, [], SliceO.nil, (fun _ => rfl), rfl, rfl⟩⟩, rfl, own_to [1, 0] rfl o⟩)
    · replace H := if_f (bf c3) H
      refine at_skip ?_
      refine at_then ?_
      refine at_seq ?_
      refine at_region [0, 1, 2, 3, 4, 5, 6, 7] rfl ?_
      iterate 2 refine at_s T rfl ?_
      refine at_v rfl (g_load T rfl rfl rfl rfl (in_var (j := 1) rfl rfl)) ?_
      obtain ⟨c4, H⟩ := chk_e H
      obtain ⟨q4, o4, e4⟩ := h_t_C.addr c4.1 c4.2
      refine at_v rfl (g_index T rfl rfl rfl rfl rfl e4 c4.1 c4.2) ?_
      refine at_v rfl (g_load T rfl rfl rfl rfl (in_elem1 (k := (Fl.int .u8)) (ro_of h_t_C (j := 0) rfl) e4 c4 0 rfl)) ?_
      refine at_cons (at_bs (k := (Fl.int .u8)) T [(rd t.C 0)] rfl rfl rfl rfl rfl rfl rfl rfl rfl (fun a5 H5 s5 => ?_))
      obtain ⟨c5, H⟩ := chk_e H
      refine at_cons (at_ap (k := (Fl.int .u8)) (xs := [(wu8 form)]) T (g := 2) rfl rfl rfl rfl rfl rfl rfl rfl rfl rfl s2 (own_of s5 (j := 3) rfl) c5 rfl (fun a6 n6 H6 s6 => ?_))
      refine at_s T rfl ?_
      refine at_end ?_
      refine at_to [(4, (.slice a6 (List.length ([(wu8 form)] ++ [(rd t.C 0)])) n6))] [0, 1] [F, H6] ⟨rfl, trivial⟩ rfl ?_
      refine at_then ?_
      refine at_ret ?_
      refine at_rb ?_
      refine at_rt ?_
      obtain rfl := Option.some.inj H
      exact at_post (T := T) rfl (.tmp rfl .nil) (fun w o => ⟨⟨(_, _), ⟨a6, n6, H6, s6, (no_nil_app (.inr rfl)), rfl, rfl⟩⟩, rfl, own_to [1, 0] rfl o⟩)
  · replace H := if_f (bf c1) H
    refine at_seq ?_
    refine at_region [0, 1] rfl ?_
    iterate 2 refine at_s T rfl ?_
    refine at_end ?_
    refine at_sub [(2, (.pointer (some ⟨b1, 0, none⟩))), (5, (.slice a2 (List.length [(wu8 form)]) (List.length [(wu8 form)]))), (25, (.bool (form == 1)))] ⟨rfl, rfl, rfl, trivial⟩ ?_
    refine at_then ?_
    refine at_cond rfl (fun c6 => ?_) (fun c6 => ?_)
    · replace H := if_t c6 H
      refine at_seq ?_
      refine at_region [0, 1, 2, 3, 4] rfl ?_
      iterate 2 refine at_s T rfl ?_
      refine at_v rfl (g_load T rfl rfl rfl rfl (in_var (j := 1) rfl rfl)) ?_
      obtain ⟨c7, H⟩ := chk_e H
      refine at_cons (at_ap (k := (Fl.int .u8)) (xs := [(wu8 form)]) T (g := 2) rfl rfl rfl rfl rfl rfl rfl rfl rfl rfl s2 (ro_of h_t_C (j := 0) rfl) c7 rfl (fun a7 n7 H7 s7 => ?_))
      refine at_s T rfl ?_
      refine at_end ?_
      refine at_to [(4, (.slice a7 (List.length ([(wu8 form)] ++ t.C)) n7))] [0, 1] [F, H7] ⟨rfl, trivial⟩ rfl ?_
      refine at_then ?_
      refine at_ret ?_
      refine at_rb ?_
      refine at_rt ?_
      obtain rfl := Option.some.inj H
      exact at_post (T := T) rfl (.tmp rfl .nil) (fun w o => ⟨⟨(_, _), ⟨a7, n7, H7, s7, (no_nil_app (.inl rfl)), rfl, rfl⟩⟩, rfl, own_to [1, 0] rfl o⟩)
    · replace H := if_f (bf c6) H
      refine at_skip ?_
      refine at_nb ?_
      refine at_then ?_
      refine at_seq ?_
      refine at_seq ?_
      refine at_region [0] rfl ?_
      refine at_s T rfl ?_
      refine at_end ?_
      refine at_sub [(2, (.pointer (some ⟨b1, 0, none⟩))), (5, (.slice a2 (List.length [(wu8 form)]) (List.length [(wu8 form)]))), (6, (.int .i64 0))] ⟨rfl, rfl, rfl, trivial⟩ ?_
      refine at_then ?_
      refine at_block ?_
      refine at_loopL (σ := Nat × List Int × Int × Option Addr × Nat × Hp) (fun ⟨k6, x4, x5, a9, n9, H9⟩ => pack_put.l0 k6 t x4 x5 = some r ∧ SliceO (Fl.int .u8) 5 x4 a9 n9 H9 ∧ (x4 = [] → a9 = none)) (fun ⟨k6, x4, x5, a9, n9, H9⟩ => [(2, (.pointer (some ⟨b1, 0, none⟩))), (5, (.slice a9 (List.length x4) n9)), (6, (.int .i64 x5))]) (fun ⟨k6, x4, x5, a9, n9, H9⟩ => [F, [(b1, Obj.cells #[(.int .i64 t.W), (.int .i64 t.H), (.slice a_t_C (List.length t.C) n_t_C)] 41 (0, 0))], H9]) (fun s => s.1) (fuel, [(wu8 form)], 0, a2, (List.length [(wu8 form)]), H2) [0, 0, 0] ⟨H, s2, (fun e => by cases e)⟩ ⟨rfl, rfl, rfl, trivial⟩ rfl ?_
      rintro ⟨k6, x4, x5, a9, n9, H9⟩ ⟨Z8, s9, r9⟩
      replace Z8 : pack_put.l0 k6 t x4 x5 = some r := Z8
      rcases k6 with _ | k6
      · rw [pack_put.l0] at Z8; cases Z8
      · rw [pack_put.l0] at Z8
        refine at_seq ?_
        refine at_seq ?_
        refine at_region [0, 1, 2, 3, 4] rfl ?_
        iterate 2 refine at_s T rfl ?_
        refine at_v rfl (g_load T rfl rfl rfl rfl (in_var (j := 1) rfl rfl)) ?_
        iterate 2 refine at_s T rfl ?_
        refine at_end ?_
        refine at_sub [(2, (.pointer (some ⟨b1, 0, none⟩))), (5, (.slice a9 (List.length x4) n9)), (6, (.int .i64 x5)), (35, (.bool (decide (x5 < (List.length t.C : Int)))))] ⟨rfl, rfl, rfl, rfl, trivial⟩ ?_
        refine at_then ?_
        refine at_cond rfl (fun c9 => ?_) (fun c9 => ?_)
        · replace Z8 := if_t (of_decide_eq_true c9) Z8
          refine at_skip ?_
          refine at_then ?_
          obtain ⟨z9, Z10, Z8⟩ := bind_e Z8
          refine at_any_mid (σ := List Int × Int × Option Addr × Nat × Hp) (fun ⟨x7, x8, a10, n10, H10⟩ => (x7, x8) = z9 ∧ SliceO (Fl.int .u8) 5 x7 a10 n10 H10 ∧ (x7 = [] → a10 = none)) (fun ⟨x7, x8, a10, n10, H10⟩ => [(2, (.pointer (some ⟨b1, 0, none⟩))), (5, (.slice a10 (List.length x7) n10)), (6, (.int .i64 x8))]) (fun ⟨x7, x8, a10, n10, H10⟩ => [F, [(b1, Obj.cells #[(.int .i64 t.W), (.int .i64 t.H), (.slice a_t_C (List.length t.C) n_t_C)] 41 (0, 0))], H10]) ?_ ?_
          · refine at_block ?_
            refine at_seq ?_
            refine at_region [0] rfl ?_
            refine at_s T rfl ?_
            refine at_end ?_
            refine at_sub [(2, (.pointer (some ⟨b1, 0, none⟩))), (5, (.slice a9 (List.length x4) n9)), (6, (.int .i64 x5)), (7, (.int .i64 1))] ⟨rfl, rfl, rfl, rfl, trivial⟩ ?_
            refine at_then ?_
            obtain ⟨z11, Z11, Z10⟩ := bind_e Z10
            refine at_seq_mid (σ := Int) (fun x10 => x10 = z11) (fun x10 => [(2, (.pointer (some ⟨b1, 0, none⟩))), (5, (.slice a9 (List.length x4) n9)), (6, (.int .i64 x5)), (7, (.int .i64 x10))]) (fun x10 => [F, [(b1, Obj.cells #[(.int .i64 t.W), (.int .i64 t.H), (.slice a_t_C (List.length t.C) n_t_C)] 41 (0, 0))], H9]) ?_ ?_
            · refine at_block ?_
              refine at_loopL (σ := Nat × Int) (fun ⟨k14, x13⟩ => pack_put.l1 k14 t x5 x13 = some z11) (fun ⟨k14, x13⟩ => [(2, (.pointer (some ⟨b1, 0, none⟩))), (5, (.slice a9 (List.length x4) n9)), (6, (.int .i64 x5)), (7, (.int .i64 x13))]) (fun ⟨k14, x13⟩ => [F, [(b1, Obj.cells #[(.int .i64 t.W), (.int .i64 t.H), (.slice a_t_C (List.length t.C) n_t_C)] 41 (0, 0))], H9]) (fun s => s.1) (fuel, 1) [0, 0, 0] Z11 ⟨rfl, rfl, rfl, rfl, trivial⟩ rfl ?_
              rintro ⟨k14, x13⟩ Z12
              replace Z12 : pack_put.l1 k14 t x5 x13 = some z11 := Z12
              rcases k14 with _ | k14
              · rw [pack_put.l1] at Z12; cases Z12
              · rw [pack_put.l1] at Z12
                refine at_seq ?_
                obtain ⟨z16, Z13, Z12⟩ := bind_e Z12
                refine at_seq_mid (σ := Bool) (fun x15 => x15 = z16) (fun x15 => [(2, (.pointer (some ⟨b1, 0, none⟩))), (5, (.slice a9 (List.length x4) n9)), (6, (.int .i64 x5)), (7, (.int .i64 x13)), (57, (.bool x15))]) (fun x15 => [F, [(b1, Obj.cells #[(.int .i64 t.W), (.int .i64 t.H), (.slice a_t_C (List.length t.C) n_t_C)] 41 (0, 0))], H9]) ?_ ?_
                · refine at_region_q mix (by kernel_rfl) ?_
                  iterate 4 refine atq_s T rfl ?_
                  refine atq_v rfl rfl rfl (g_load T rfl rfl rfl rfl (in_var (j := 1) rfl rfl)) ?_
                  iterate 3 refine atq_s T rfl ?_
                  refine atq_case (s := 43) rfl (fun c14 => ?_) (fun c14 => ?_)
                  · replace Z13 := if_t (of_decide_eq_true c14) Z13
                    refine atq_s T rfl ?_
                    refine atq_v rfl rfl rfl (g_load T rfl rfl rfl rfl (in_var (j := 1) rfl rfl)) ?_
                    iterate 3 refine atq_s T rfl ?_
                    obtain ⟨c15, Z13⟩ := chk_e Z13
                    obtain ⟨q11, o11, e11⟩ := h_t_C.addr c15.1 c15.2
                    refine atq_v rfl rfl rfl (g_index T rfl rfl rfl rfl rfl e11 c15.1 c15.2) ?_
                    refine atq_v rfl rfl rfl (g_load T rfl rfl rfl rfl (in_elem1 (k := (Fl.int .u8)) (ro_of h_t_C (j := 0) rfl) e11 c15 0 rfl)) ?_
                    refine atq_s T rfl ?_
                    refine atq_v rfl rfl rfl (g_load T rfl rfl rfl rfl (in_var (j := 1) rfl rfl)) ?_
                    refine atq_s T rfl ?_
                    obtain ⟨c16, Z13⟩ := chk_e Z13
                    refine atq_v rfl rfl rfl (g_index T rfl rfl rfl rfl rfl e11 c16.1 c16.2) ?_
                    refine atq_v rfl rfl rfl (g_load T rfl rfl rfl rfl (in_elem1 (k := (Fl.int .u8)) (ro_of h_t_C (j := 0) rfl) e11 c16 0 rfl)) ?_
                    iterate 2 refine atq_s T rfl ?_
                    refine atq_end ?_
                    refine at_sub [(2, (.pointer (some ⟨b1, 0, none⟩))), (5, (.slice a9 (List.length x4) n9)), (6, (.int .i64 x5)), (7, (.int .i64 x13)), (57, (.bool ((rd t.C (w64 (x5 + x13))) == (rd t.C x5))))] ⟨rfl, rfl, rfl, rfl, rfl, trivial⟩ ?_
                    refine at_then ?_
                    obtain rfl := Option.some.inj Z13
                    exact at_mid ((rd t.C (w64 (x5 + x13))) == (rd t.C x5)) [0, 0, 0] rfl ⟨rfl, rfl, rfl, rfl, rfl, trivial⟩ rfl
                  · replace Z13 := if_f (of_decide_eq_false c14) Z13
                    iterate 14 refine atq_s T rfl ?_
                    refine atq_end ?_
                    refine at_sub [(2, (.pointer (some ⟨b1, 0, none⟩))), (5, (.slice a9 (List.length x4) n9)), (6, (.int .i64 x5)), (7, (.int .i64 x13)), (57, (.bool false))] ⟨rfl, rfl, rfl, rfl, rfl, trivial⟩ ?_
                    refine at_then ?_
                    obtain rfl := Option.some.inj Z13
                    exact at_mid false [0, 0, 0] rfl ⟨rfl, rfl, rfl, rfl, rfl, trivial⟩ rfl
                · rintro x15 rfl
                  refine at_cond rfl (fun c17 => ?_) (fun c17 => ?_)
                  · replace Z12 := if_t c17 Z12
                    refine at_skip ?_
                    refine at_then ?_
                    refine at_block ?_
                    refine at_region [0, 1, 2] rfl ?_
                    iterate 3 refine at_s T rfl ?_
                    refine at_end ?_
                    refine at_sub [(2, (.pointer (some ⟨b1, 0, none⟩))), (5, (.slice a9 (List.length x4) n9)), (6, (.int .i64 x5)), (7, (.int .i64 (w64 (x13 + 1))))] ⟨rfl, rfl, rfl, rfl, trivial⟩ ?_
                    refine at_nb ?_
                    refine at_then ?_
                    exact at_roundL (k14, (w64 (x13 + 1))) [0, 0, 0] Z12 (Nat.lt_succ_self _) ⟨rfl, rfl, rfl, rfl, trivial⟩ rfl
                  · replace Z12 := if_f (bf c17) Z12
                    refine at_exit ?_
                    refine at_xt ?_
                    refine at_xt ?_
                    refine at_xb ?_
                    refine at_then ?_
                    obtain rfl := Option.some.inj Z12
                    exact at_mid x13 [0, 0, 0] rfl ⟨rfl, rfl, rfl, rfl, trivial⟩ rfl
            · rintro x10 rfl
              refine at_seq ?_
              refine at_region [0, 1, 2, 3, 4, 5, 6, 7, 8, 9, 10, 11] rfl ?_
              iterate 5 refine at_s T rfl ?_
              refine at_v rfl (g_load T rfl rfl rfl rfl (in_var (j := 1) rfl rfl)) ?_
              refine at_s T rfl ?_
              obtain ⟨c18, Z10⟩ := chk_e Z10
              obtain ⟨q12, o12, e12⟩ := h_t_C.addr c18.1 c18.2
              refine at_v rfl (g_index T rfl rfl rfl rfl rfl e12 c18.1 c18.2) ?_
              refine at_v rfl (g_load T rfl rfl rfl rfl (in_elem1 (k := (Fl.int .u8)) (ro_of h_t_C (j := 0) rfl) e12 c18 0 rfl)) ?_
              refine at_cons (at_bs (k := (Fl.int .u8)) T [(wu8 (w64 (x10 - 1))), (rd t.C x5)] rfl rfl rfl rfl rfl rfl rfl rfl rfl (fun a13 H13 s13 => ?_))
              obtain ⟨c19, Z10⟩ := chk_e Z10
              refine at_cons (at_ap (k := (Fl.int .u8)) (xs := x4) T (g := 2) rfl rfl rfl rfl rfl rfl rfl rfl rfl rfl s9 (own_of s13 (j := 3) rfl) c19 rfl (fun a14 n14 H14 s14 => ?_))
              refine at_s T rfl ?_
              refine at_end ?_
              refine at_to [(2, (.pointer (some ⟨b1, 0, none⟩))), (5, (.slice a14 (List.length (x4 ++ [(wu8 (w64 (x10 - 1))), (rd t.C x5)])) n14)), (6, (.int .i64 x5)), (7, (.int .i64 x10))] [0, 0, 0] [F, [(b1, Obj.cells #[(.int .i64 t.W), (.int .i64 t.H), (.slice a_t_C (List.length t.C) n_t_C)] 41 (0, 0))], H14] ⟨rfl, rfl, rfl, rfl, trivial⟩ rfl ?_
              refine at_then ?_
              refine at_region [0, 1, 2, 3] rfl ?_
              iterate 4 refine at_s T rfl ?_
              refine at_end ?_
              refine at_sub [(2, (.pointer (some ⟨b1, 0, none⟩))), (5, (.slice a14 (List.length (x4 ++ [(wu8 (w64 (x10 - 1))), (rd t.C x5)])) n14)), (6, (.int .i64 (w64 (x5 + x10))))] ⟨rfl, rfl, rfl, trivial⟩ ?_
              refine at_nb ?_
              refine at_then ?_
              obtain rfl := Option.some.inj Z10
              exact at_mid ((x4 ++ [(wu8 (w64 (x10 - 1))), (rd t.C x5)]), (w64 (x5 + x10)), a14, n14, H14) [0, 0, 0] ⟨rfl, s14, (no_nil_app (.inr rfl))⟩ ⟨rfl, rfl, rfl, trivial⟩ rfl
          · rintro ⟨x7, x8, a10, n10, H10⟩ ⟨rfl, s10, r10⟩
            refine at_then ?_
            exact at_roundL (k6, x7, x8, a10, n10, H10) [0, 0, 0] ⟨Z8, s10, r10⟩ (Nat.lt_succ_self _) ⟨rfl, rfl, rfl, trivial⟩ rfl
        · replace Z8 := if_f (of_decide_eq_false c9) Z8
          refine at_exit ?_
          refine at_xt ?_
          refine at_xt ?_
          refine at_xb ?_
          refine at_then ?_
          refine at_seq ?_
          refine at_region [0, 1] rfl ?_
          iterate 2 refine at_s T rfl ?_
          refine at_end ?_
          refine at_to [(4, (.slice a9 (List.length x4) n9))] [0, 1] [F, H9] ⟨rfl, trivial⟩ rfl ?_
          refine at_then ?_
          refine at_ret ?_
          obtain rfl := Option.some.inj Z8
          exact at_post (T := T) rfl (.tmp rfl .nil) (fun w o => ⟨⟨(_, _), ⟨a9, n9, H9, s9, r9, rfl, rfl⟩⟩, rfl, own_to [1, 0] rfl o⟩)

/-! ### herdsman/pack.least: function 57 -/
def pack_least.l0 : Nat → api_Map → Int → List Int → Int → Option (Int × (List Int))
  | 0, _, _, _, _ => none
  | k7 + 1, t, x4, x5, x6 => if x6 < 3 then ((pack_put.f t x6).bind fun v8 => (if (!List.isEmpty v8) = true then (if (List.isEmpty x5) = true then (some true) else (some (decide ((List.length v8 : Int) < (List.length x5 : Int))))) else (some false)).bind fun x9 => if x9 = true then (pack_least.l0 k7 t x6 v8 (w64 (x6 + 1))) else (pack_least.l0 k7 t x4 x5 (w64 (x6 + 1)))) else (some (x4, x5))
def pack_least.f (t : api_Map) : Option (Int × (List Int)) := pack_least.l0 fuel t (-1) [] 0
def pack_least.R (r : (Int × (List Int))) (u : Value) (G : List Hp) : Prop := ∃ (a0 : Option Addr) (n0 : Nat) (H0 : Hp), SliceO (Fl.int .u8) 5 r.2 a0 n0 H0 ∧ (r.2 = [] → a0 = none) ∧ u = (.tuple #[(.int .i64 r.1), (.slice a0 (List.length r.2) n0)]) ∧ G = [H0]
set_option maxHeartbeats 4000000 in
theorem pack_least.c {a_t_C : Option Addr} {n_t_C : Nat} (t : api_Map) (r : (Int × (List Int))) (F : Hp) (H : pack_least.f t = some r) (h_t_C : SliceR (Fl.int .u8) t.C a_t_C F) (c_t_C : List.length t.C ≤ n_t_C) :
    CallsL Tryd.prog 57 [(.agg #[(.int .i64 t.W), (.int .i64 t.H), (.slice a_t_C (List.length t.C) n_t_C)])] [F] (fun qp : { qp : Value × List Hp // pack_least.R r qp.1 qp.2 } => qp.1.1) (fun qp => (qp.1.2 ++ []) ++ [F]) := by
  unfold pack_least.f at H
  refine calls_atL [(0, (.agg #[(.int .i64 t.W), (.int .i64 t.H), (.slice a_t_C (List.length t.C) n_t_C)]))] Tryd.func57 rfl rfl ⟨rfl, trivial⟩ (fun W => ?_)
  refine at_seq ?_
  refine at_region [0, 1, 2] rfl ?_
  refine at_cons (at_bx T [(.int .i64 t.W), (.int .i64 t.H), (.slice a_t_C (List.length t.C) n_t_C)] rfl rfl rfl rfl (fun b1 => ?_))
  iterate 2 refine at_s T rfl ?_
  refine at_end ?_
  refine at_sub [(1, (.pointer (some ⟨b1, 0, none⟩)))] ⟨rfl, trivial⟩ ?_
  refine at_then ?_
  refine at_seq ?_
  refine at_region [0, 1] rfl ?_
  iterate 2 refine at_s T rfl ?_
  refine at_end ?_
  refine at_sub [(1, (.pointer (some ⟨b1, 0, none⟩))), (4, (.int .i64 (-1))), (5, (.slice none 0 0))] ⟨rfl, rfl, rfl, trivial⟩ ?_
  refine at_then ?_
  refine at_seq ?_
  refine at_seq ?_
  refine at_region [0] rfl ?_
  refine at_s T rfl ?_
  refine at_end ?_
  refine at_sub [(1, (.pointer (some ⟨b1, 0, none⟩))), (4, (.int .i64 (-1))), (5, (.slice none 0 0)), (8, (.int .i64 0))] ⟨rfl, rfl, rfl, rfl, trivial⟩ ?_
  refine at_then ?_
  refine at_block ?_
  refine at_addnil ?_
  refine at_loopL (σ := Nat × Int × List Int × Int × Option Addr × Nat × Hp) (fun ⟨k7, x4, x5, x6, a3, n3, H3⟩ => pack_least.l0 k7 t x4 x5 x6 = some r ∧ SliceO (Fl.int .u8) 5 x5 a3 n3 H3 ∧ (x5 = [] → a3 = none)) (fun ⟨k7, x4, x5, x6, a3, n3, H3⟩ => [(1, (.pointer (some ⟨b1, 0, none⟩))), (4, (.int .i64 x4)), (5, (.slice a3 (List.length x5) n3)), (8, (.int .i64 x6))]) (fun ⟨k7, x4, x5, x6, a3, n3, H3⟩ => [F, [(b1, Obj.cells #[(.int .i64 t.W), (.int .i64 t.H), (.slice a_t_C (List.length t.C) n_t_C)] 41 (0, 0))], H3]) (fun s => s.1) (fuel, (-1), [], 0, none, 0, []) [0, 0, 0] ⟨H, SliceO.nil, (fun _ => rfl)⟩ ⟨rfl, rfl, rfl, rfl, trivial⟩ rfl ?_
  rintro ⟨k7, x4, x5, x6, a3, n3, H3⟩ ⟨Z1, s3, r3⟩
  replace Z1 : pack_least.l0 k7 t x4 x5 x6 = some r := Z1
  rcases k7 with _ | k7
  · rw [pack_least.l0] at Z1; cases Z1
  · rw [pack_least.l0] at Z1
    refine at_seq ?_
    refine at_region [0] rfl ?_
    refine at_s T rfl ?_
    refine at_end ?_
    refine at_sub [(1, (.pointer (some ⟨b1, 0, none⟩))), (4, (.int .i64 x4)), (5, (.slice a3 (List.length x5) n3)), (8, (.int .i64 x6)), (9, (.bool (decide (x6 < 3))))] ⟨rfl, rfl, rfl, rfl, rfl, trivial⟩ ?_
    refine at_then ?_
    refine at_seq ?_
    refine at_cond rfl (fun c2 => ?_) (fun c2 => ?_)
    · replace Z1 := if_t (of_decide_eq_true c2) Z1
      refine at_skip ?_
      refine at_then ?_
      refine at_seq ?_
      refine at_block ?_
      refine at_seq ?_
      refine at_region [0, 1] rfl ?_
      iterate 2 refine at_s T rfl ?_
      refine at_end ?_
      refine at_sub [(1, (.pointer (some ⟨b1, 0, none⟩))), (4, (.int .i64 x4)), (5, (.slice a3 (List.length x5) n3)), (6, (.int .i64 x6)), (8, (.int .i64 x6))] ⟨rfl, rfl, rfl, rfl, rfl, trivial⟩ ?_
      refine at_then ?_
      refine at_seq ?_
      refine at_region [0, 1, 2, 3] rfl ?_
      refine at_v rfl (g_loadA T (cs := [(.int .i64 t.W), (.int .i64 t.H), (.slice a_t_C (List.length t.C) n_t_C)]) rfl rfl rfl rfl rfl rfl (in_varA (j := 1) rfl rfl)) ?_
      refine at_s T rfl ?_
      obtain ⟨v8, V3, Z1⟩ := bind_e Z1
      refine at_cons (at_cR (pack_put.R v8) [] [] rfl rfl rfl rfl has66 rfl rfl (pack_put.c t x6 v8 _ V3 (ro_of h_t_C (j := 0) rfl) c_t_C) ?_)
      rintro _ _ ⟨a4, n4, H4, s4, r4, rfl, rfl⟩
      refine at_s T rfl ?_
      refine at_end ?_
      refine at_sub [(1, (.pointer (some ⟨b1, 0, none⟩))), (4, (.int .i64 x4)), (5, (.slice a3 (List.length x5) n3)), (6, (.int .i64 x6)), (7, (.slice a4 (List.length v8) n4)), (8, (.int .i64 x6))] ⟨rfl, rfl, rfl, rfl, rfl, rfl, trivial⟩ ?_
      refine at_then ?_
      obtain ⟨z10, Z4, Z1⟩ := bind_e Z1
      refine at_seq_mid (σ := Bool) (fun x9 => x9 = z10) (fun x9 => [(1, (.pointer (some ⟨b1, 0, none⟩))), (4, (.int .i64 x4)), (5, (.slice a3 (List.length x5) n3)), (6, (.int .i64 x6)), (7, (.slice a4 (List.length v8) n4)), (8, (.int .i64 x6)), (26, (.bool x9))]) (fun x9 => [F, [(b1, Obj.cells #[(.int .i64 t.W), (.int .i64 t.H), (.slice a_t_C (List.length t.C) n_t_C)] 41 (0, 0))], H3, H4]) ?_ ?_
      · refine at_region [0, 1, 2, 3, 4, 5, 6, 7, 8, 9, 10, 11, 12] rfl ?_
        refine at_s T rfl ?_
        refine at_v rfl (g_isnoll T rfl rfl rfl rfl s4 r4) ?_
        refine at_s T rfl ?_
        refine at_case (s := 16) rfl (fun c5 => ?_) (fun c5 => ?_)
        · replace Z4 := if_t c5 Z4
          refine at_s T rfl ?_
          refine at_v rfl (g_isnil T rfl rfl rfl rfl s3 r3) ?_
          refine at_s T rfl ?_
          refine at_case (s := 19) rfl (fun c6 => ?_) (fun c6 => ?_)
          · replace Z4 := if_t c6 Z4
            iterate 7 refine at_s T rfl ?_
            refine at_end ?_
            refine at_sub [(1, (.pointer (some ⟨b1, 0, none⟩))), (4, (.int .i64 x4)), (5, (.slice a3 (List.length x5) n3)), (6, (.int .i64 x6)), (7, (.slice a4 (List.length v8) n4)), (8, (.int .i64 x6)), (26, (.bool true))] ⟨rfl, rfl, rfl, rfl, rfl, rfl, rfl, trivial⟩ ?_
            refine at_then ?_
            obtain rfl := Option.some.inj Z4
            exact at_mid true [0, 0, 0, 0] rfl ⟨rfl, rfl, rfl, rfl, rfl, rfl, rfl, trivial⟩ rfl
          · replace Z4 := if_f (bf c6) Z4
            iterate 7 refine at_s T rfl ?_
            refine at_end ?_
            refine at_sub [(1, (.pointer (some ⟨b1, 0, none⟩))), (4, (.int .i64 x4)), (5, (.slice a3 (List.length x5) n3)), (6, (.int .i64 x6)), (7, (.slice a4 (List.length v8) n4)), (8, (.int .i64 x6)), (26, (.bool (decide ((List.length v8 : Int) < (List.length x5 : Int)))))] ⟨rfl, rfl, rfl, rfl, rfl, rfl, rfl, trivial⟩ ?_
            refine at_then ?_
            obtain rfl := Option.some.inj Z4
            exact at_mid (decide ((List.length v8 : Int) < (List.length x5 : Int))) [0, 0, 0, 0] rfl ⟨rfl, rfl, rfl, rfl, rfl, rfl, rfl, trivial⟩ rfl
        · replace Z4 := if_f (bf c5) Z4
          iterate 10 refine at_s T rfl ?_
          refine at_end ?_
          refine at_sub [(1, (.pointer (some ⟨b1, 0, none⟩))), (4, (.int .i64 x4)), (5, (.slice a3 (List.length x5) n3)), (6, (.int .i64 x6)), (7, (.slice a4 (List.length v8) n4)), (8, (.int .i64 x6)), (26, (.bool false))] ⟨rfl, rfl, rfl, rfl, rfl, rfl, rfl, trivial⟩ ?_
          refine at_then ?_
          obtain rfl := Option.some.inj Z4
          exact at_mid false [0, 0, 0, 0] rfl ⟨rfl, rfl, rfl, rfl, rfl, rfl, rfl, trivial⟩ rfl
      · rintro x9 rfl
        refine at_cond rfl (fun c7 => ?_) (fun c7 => ?_)
        · replace Z1 := if_t c7 Z1
          refine at_region [0, 1, 2, 3] rfl ?_
          iterate 4 refine at_s T rfl ?_
          refine at_end ?_
          refine at_to [(1, (.pointer (some ⟨b1, 0, none⟩))), (4, (.int .i64 x6)), (5, (.slice a4 (List.length v8) n4)), (8, (.int .i64 x6))] [0, 0, 1] [F, [(b1, Obj.cells #[(.int .i64 t.W), (.int .i64 t.H), (.slice a_t_C (List.length t.C) n_t_C)] 41 (0, 0))], H4] ⟨rfl, rfl, rfl, rfl, trivial⟩ rfl ?_
          refine at_nb ?_
          refine at_then ?_
          refine at_region [0, 1] rfl ?_
          iterate 2 refine at_s T rfl ?_
          refine at_end ?_
          refine at_sub [(1, (.pointer (some ⟨b1, 0, none⟩))), (4, (.int .i64 x6)), (5, (.slice a4 (List.length v8) n4)), (8, (.int .i64 (w64 (x6 + 1))))] ⟨rfl, rfl, rfl, rfl, trivial⟩ ?_
          refine at_then ?_
          exact at_roundL (k7, x6, v8, (w64 (x6 + 1)), a4, n4, H4) [0, 0, 0] ⟨Z1, s4, r4⟩ (Nat.lt_succ_self _) ⟨rfl, rfl, rfl, rfl, trivial⟩ rfl
        · replace Z1 := if_f (bf c7) Z1
          refine at_skip ?_
          refine at_nb ?_
          refine at_then ?_
          refine at_region [0, 1] rfl ?_
          iterate 2 refine at_s T rfl ?_
          refine at_end ?_
          refine at_to [(1, (.pointer (some ⟨b1, 0, none⟩))), (4, (.int .i64 x4)), (5, (.slice a3 (List.length x5) n3)), (8, (.int .i64 (w64 (x6 + 1))))] [0, 0, 0] [F, [(b1, Obj.cells #[(.int .i64 t.W), (.int .i64 t.H), (.slice a_t_C (List.length t.C) n_t_C)] 41 (0, 0))], H3] ⟨rfl, rfl, rfl, rfl, trivial⟩ rfl ?_
          refine at_then ?_
          exact at_roundL (k7, x4, x5, (w64 (x6 + 1)), a3, n3, H3) [0, 0, 0] ⟨Z1, s3, r3⟩ (Nat.lt_succ_self _) ⟨rfl, rfl, rfl, rfl, trivial⟩ rfl
    · replace Z1 := if_f (of_decide_eq_false c2) Z1
      refine at_exit ?_
      refine at_xt ?_
      refine at_xt ?_
      refine at_xb ?_
      refine at_then ?_
      refine at_seq ?_
      refine at_region [0, 1, 2, 3] rfl ?_
      iterate 4 refine at_s T rfl ?_
      refine at_end ?_
      refine at_to [(2, (.int .i64 x4)), (3, (.slice a3 (List.length x5) n3))] [0, 1] [F, H3] ⟨rfl, rfl, trivial⟩ rfl ?_
      refine at_then ?_
      refine at_ret ?_
      obtain rfl := Option.some.inj Z1
      exact at_post (T := T) rfl (.tmp rfl (.tmp rfl .nil)) (fun w o => ⟨⟨(_, _), ⟨a3, n3, H3, s3, r3, rfl, rfl⟩⟩, rfl, own_to [1, 0] rfl o⟩)

/-! ### herdsman/pack.Put: function 39 -/
def pack_Put.f (t : api_Map) : Option ((List Int) × Int) := (tile_May.f t).bind fun v1 => if (!v1) = true then (some ([], 1)) else ((pack_least.f t).bind fun v2 => some (v2.2, 0))
def pack_Put.R (r : ((List Int) × Int)) (u : Value) (G : List Hp) : Prop := ∃ (a0 : Option Addr) (n0 : Nat) (H0 : Hp), SliceO (Fl.int .u8) 5 r.1 a0 n0 H0 ∧ u = (.tuple #[(.slice a0 (List.length r.1) n0), (.int .i64 r.2)]) ∧ G = [H0]
set_option maxHeartbeats 4000000 in
theorem pack_Put.c {a_t_C : Option Addr} {n_t_C : Nat} (t : api_Map) (r : ((List Int) × Int)) (F : Hp) (H : pack_Put.f t = some r) (h_t_C : SliceR (Fl.int .u8) t.C a_t_C F) (c_t_C : List.length t.C ≤ n_t_C) :
    CallsL Tryd.prog 39 [(.agg #[(.int .i64 t.W), (.int .i64 t.H), (.slice a_t_C (List.length t.C) n_t_C)])] [F] (fun qp : { qp : Value × List Hp // pack_Put.R r qp.1 qp.2 } => qp.1.1) (fun qp => (qp.1.2 ++ []) ++ [F]) := by
  unfold pack_Put.f at H
  refine calls_atL [(0, (.agg #[(.int .i64 t.W), (.int .i64 t.H), (.slice a_t_C (List.length t.C) n_t_C)]))] Tryd.func39 rfl rfl ⟨rfl, trivial⟩ (fun W => ?_)
  refine at_seq ?_
  refine at_region [0, 1, 2] rfl ?_
  refine at_cons (at_bx T [(.int .i64 t.W), (.int .i64 t.H), (.slice a_t_C (List.length t.C) n_t_C)] rfl rfl rfl rfl (fun b1 => ?_))
  iterate 2 refine at_s T rfl ?_
  refine at_end ?_
  refine at_sub [(1, (.pointer (some ⟨b1, 0, none⟩)))] ⟨rfl, trivial⟩ ?_
  refine at_then ?_
  refine at_seq ?_
  refine at_seq ?_
  refine at_region [0, 1, 2] rfl ?_
  refine at_v rfl (g_loadA T (cs := [(.int .i64 t.W), (.int .i64 t.H), (.slice a_t_C (List.length t.C) n_t_C)]) rfl rfl rfl rfl rfl rfl (in_varA (j := 1) rfl rfl)) ?_
  obtain ⟨v1, V1, H⟩ := bind_e H
  refine at_cons (at_c (B := fun _ => []) [] rfl rfl rfl rfl has48 rfl rfl (tile_May.c t v1 _ V1 (ro_of h_t_C (j := 0) rfl) c_t_C) (fun _ => ?_))
  refine at_s T rfl ?_
  refine at_end ?_
  refine at_sub [(1, (.pointer (some ⟨b1, 0, none⟩))), (8, (.bool (!v1)))] ⟨rfl, rfl, trivial⟩ ?_
  refine at_then ?_
  refine at_cond rfl (fun c2 => ?_) (fun c2 => ?_)
  · replace H := if_t c2 H
    refine at_seq ?_
    refine at_region [0, 1] rfl ?_
    iterate 2 refine at_s T rfl ?_
    refine at_end ?_
    refine at_to [(2, (.slice none 0 0)), (3, (.int .i64 1))] [0] [F] ⟨rfl, rfl, trivial⟩ rfl ?_
    refine at_then ?_
    refine at_ret ?_
    refine at_rt ?_
    obtain rfl := Option.some.inj H
    refine at_addnil ?_
    exact at_post (T := T) rfl (.tmp rfl (.tmp rfl .nil)) (fun w o => ⟨⟨(_, _), ⟨none, 0, [], SliceO.nil, rfl, rfl⟩⟩, rfl, own_to [1, 0] rfl o⟩)
  · replace H := if_f (bf c2) H
    refine at_skip ?_
    refine at_then ?_
    refine at_seq ?_
    refine at_region [0, 1, 2, 3, 4, 5, 6] rfl ?_
    refine at_v rfl (g_loadA T (cs := [(.int .i64 t.W), (.int .i64 t.H), (.slice a_t_C (List.length t.C) n_t_C)]) rfl rfl rfl rfl rfl rfl (in_varA (j := 1) rfl rfl)) ?_
    obtain ⟨v2, V3, H⟩ := bind_e H
    refine at_cons (at_cR (pack_least.R v2) [] [] rfl rfl rfl rfl has57 rfl rfl (pack_least.c t v2 _ V3 (ro_of h_t_C (j := 0) rfl) c_t_C) ?_)
    rintro _ _ ⟨a3, n3, H3, s3, r3, rfl, rfl⟩
    iterate 5 refine at_s T rfl ?_
    refine at_end ?_
    refine at_to [(5, (.slice a3 (List.length v2.2) n3))] [0, 1] [F, H3] ⟨rfl, trivial⟩ rfl ?_
    refine at_then ?_
    refine at_seq ?_
    refine at_region [0, 1, 2] rfl ?_
    iterate 3 refine at_s T rfl ?_
    refine at_end ?_
    refine at_sub [(2, (.slice a3 (List.length v2.2) n3)), (3, (.int .i64 0))] ⟨rfl, rfl, trivial⟩ ?_
    refine at_then ?_
    refine at_ret ?_
    obtain rfl := Option.some.inj H
    exact at_post (T := T) rfl (.tmp rfl (.tmp rfl .nil)) (fun w o => ⟨⟨(_, _), ⟨a3, n3, H3, s3, rfl, rfl⟩⟩, rfl, own_to [1, 0] rfl o⟩)

/-! ### (*herdsman/pack.reader).take: function 73 -/
def pack_reader_take.f (p0 : pack_reader) (n : Int) : Option ((List Int) × Er × pack_reader) := if (w64 ((List.length p0.b : Int) - p0.f_at)) < n then (some ([], (Er.glob 2), p0)) else (if (0 ≤ (w64 ((w64 (p0.f_at + n)) - n)) ∧ (w64 ((w64 (p0.f_at + n)) - n)) ≤ (w64 (p0.f_at + n)) ∧ (w64 (p0.f_at + n)) ≤ (List.length p0.b : Int)) then (some ((sub' p0.b (w64 ((w64 (p0.f_at + n)) - n)) (w64 (p0.f_at + n))), Er.nil, (pack_reader.mk p0.b (w64 (p0.f_at + n))))) else none)
def pack_reader_take.R (el : Nat → Addr) (b_p0 : Nat) (y0 : Value) (xr : List Int) (ar : Option Addr) (nr : Nat) (r : ((List Int) × Er × pack_reader)) (u : Value) (G : List Hp) : Prop := ∃ (a0 : Option Addr) (n0 : Nat) (v1 : Value) (H1 : Hp), Bor (Fl.int .u8) xr ar nr r.1 a0 n0 ∧ List.length r.1 ≤ n0 ∧ ErO 142 el r.2.1 v1 H1 ∧ u = (.tuple #[(.slice a0 (List.length r.1) n0), v1]) ∧ G = [H1, [(b_p0, Obj.cells #[y0, (.int .i64 r.2.2.f_at)] 100 (0, 0))]]
set_option maxHeartbeats 4000000 in
theorem pack_reader_take.c {el : Nat → Addr} {b_p0 : Nat} {a_p0_b : Option Addr} {n_p0_b : Nat} (p0 : pack_reader) (n : Int) (r : ((List Int) × Er × pack_reader)) (F : Hp) (H : pack_reader_take.f p0 n = some r) (hG : Glb 142 gs_ lits_ el F) (h_p0_b : SliceR (Fl.int .u8) p0.b a_p0_b F) (c_p0_b : List.length p0.b ≤ n_p0_b) :
    CallsL Tryd.prog 73 [(.pointer (some ⟨b_p0, 0, none⟩)), (.int .i64 n)] [[(b_p0, Obj.cells #[(.slice a_p0_b (List.length p0.b) n_p0_b), (.int .i64 p0.f_at)] 100 (0, 0))], F] (fun qp : { qp : Value × List Hp // pack_reader_take.R el b_p0 (.slice a_p0_b (List.length p0.b) n_p0_b) p0.b a_p0_b n_p0_b r qp.1 qp.2 } => qp.1.1) (fun qp => (qp.1.2 ++ []) ++ [F]) := by
  unfold pack_reader_take.f at H
  refine calls_atL [(0, (.pointer (some ⟨b_p0, 0, none⟩))), (1, (.int .i64 n))] Tryd.func73 rfl rfl ⟨rfl, rfl, trivial⟩ (fun W => ?_)
  refine at_seq ?_
  refine at_region [0, 1] rfl ?_
  iterate 2 refine at_s T rfl ?_
  refine at_end ?_
  refine at_sub [(0, (.pointer (some ⟨b_p0, 0, none⟩))), (1, (.int .i64 n))] ⟨rfl, rfl, trivial⟩ ?_
  refine at_then ?_
  refine at_seq ?_
  refine at_seq ?_
  refine at_region_q mix (by kernel_rfl) ?_
  iterate 3 refine atq_s T rfl ?_
  refine atq_v rfl rfl rfl (g_load T rfl rfl rfl rfl (in_var (j := 0) rfl rfl)) ?_
  iterate 4 refine atq_s T rfl ?_
  refine atq_v rfl rfl rfl (g_load T rfl rfl rfl rfl (in_var (j := 0) rfl rfl)) ?_
  iterate 3 refine atq_s T rfl ?_
  refine atq_end ?_
  refine at_sub [(0, (.pointer (some ⟨b_p0, 0, none⟩))), (1, (.int .i64 n)), (17, (.bool (decide ((w64 ((List.length p0.b : Int) - p0.f_at)) < n))))] ⟨rfl, rfl, rfl, trivial⟩ ?_
  refine at_then ?_
  refine at_cond rfl (fun c1 => ?_) (fun c1 => ?_)
  · replace H := if_t (of_decide_eq_true c1) H
    refine at_seq ?_
    refine at_region_q mix (by kernel_rfl) ?_
    refine atq_v rfl rfl rfl (g_load T rfl rfl rfl rfl (in_glb (j := 1) rfl hG (g := 2) (by decide))) ?_
    iterate 2 refine atq_s T rfl ?_
    refine atq_end ?_
    refine at_sub [(4, (.slice none 0 0)), (5, (.iface 142 (.pointer (some (el 2)))))] ⟨rfl, rfl, trivial⟩ ?_
    refine at_then ?_
    refine at_ret ?_
    refine at_rt ?_
    obtain rfl := Option.some.inj H
    refine at_addnil ?_
    exact at_post (T := T) rfl (.tmp rfl (.tmp rfl .nil)) (fun w o => ⟨⟨(_, _), ⟨none, 0, (.iface 142 (.pointer (some (el 2)))), [], Bor.nil, (Nat.zero_le _), ero_glob, rfl, rfl⟩⟩, rfl, own_to [2, 0, 0] rfl o⟩)
  · replace H := if_f (of_decide_eq_false c1) H
    refine at_skip ?_
    refine at_then ?_
    refine at_seq ?_
    refine at_region [0, 1, 2, 3, 4, 5, 6, 7, 8] rfl ?_
    iterate 3 refine at_s T rfl ?_
    refine at_v rfl (g_load T rfl rfl rfl rfl (in_var (j := 0) rfl rfl)) ?_
    iterate 4 refine at_s T rfl ?_
    refine at_cons (at_st T 0 [(.slice a_p0_b (List.length p0.b) n_p0_b), (.int .i64 (w64 (p0.f_at + n)))] rfl rfl rfl rfl rfl rfl rfl rfl rfl rfl ?_)
    refine at_end ?_
    refine at_sub [(0, (.pointer (some ⟨b_p0, 0, none⟩))), (1, (.int .i64 n))] ⟨rfl, rfl, trivial⟩ ?_
    refine at_then ?_
    refine at_seq ?_
    refine at_region_q mix (by kernel_rfl) ?_
    iterate 3 refine atq_s T rfl ?_
    refine atq_v rfl rfl rfl (g_load T rfl rfl rfl rfl (in_var (j := 0) rfl rfl)) ?_
    iterate 3 refine atq_s T rfl ?_
    refine atq_v rfl rfl rfl (g_load T rfl rfl rfl rfl (in_var (j := 0) rfl rfl)) ?_
    iterate 5 refine atq_s T rfl ?_
    refine atq_v rfl rfl rfl (g_load T rfl rfl rfl rfl (in_var (j := 0) rfl rfl)) ?_
    obtain ⟨c2, H⟩ := chk_e H
    refine atq_v rfl rfl rfl (g_sub T rfl rfl rfl rfl rfl rfl c2 c_p0_b) ?_
    iterate 2 refine atq_s T rfl ?_
    refine atq_end ?_
    refine at_sub [(4, (.slice (subA a_p0_b n_p0_b (Int.toNat (w64 ((w64 (p0.f_at + n)) - n))) 1) (List.length (sub' p0.b (w64 ((w64 (p0.f_at + n)) - n)) (w64 (p0.f_at + n)))) (n_p0_b - Int.toNat (w64 ((w64 (p0.f_at + n)) - n))))), (5, .nilIface)] ⟨rfl, rfl, trivial⟩ ?_
    refine at_then ?_
    refine at_ret ?_
    obtain rfl := Option.some.inj H
    refine at_addnil ?_
    exact at_post (T := T) rfl (.tmp rfl (.tmp rfl .nil)) (fun w o => ⟨⟨(_, _), ⟨(subA a_p0_b n_p0_b (Int.toNat (w64 ((w64 (p0.f_at + n)) - n))) 1), (n_p0_b - Int.toNat (w64 ((w64 (p0.f_at + n)) - n))), .nilIface, [], (Bor.sub Bor.self c_p0_b c2), (sub_cap c2 c_p0_b), ero_nil, rfl, rfl⟩⟩, rfl, own_to [2, 0, 0] rfl o⟩)

/-! ### (*herdsman/pack.reader).costs: function 74 -/
def pack_reader_costs.f (p0 : pack_reader) (n : Int) : Option ((List Int) × Er × pack_reader) := (pack_reader_take.f p0 n).bind fun v1 => (if (Er.isNil v1.2.1) = true then ((slices_Contains_byte_byte.f v1.1 0).bind fun v4 => some v4) else (some false)).bind fun x2 => if x2 = true then (some (v1.1, (Er.glob 1), (pack_reader.mk p0.b v1.2.2.f_at))) else (some (v1.1, v1.2.1, (pack_reader.mk p0.b v1.2.2.f_at)))
def pack_reader_costs.R (el : Nat → Addr) (b_p0 : Nat) (y0 : Value) (xr : List Int) (ar : Option Addr) (nr : Nat) (r : ((List Int) × Er × pack_reader)) (u : Value) (G : List Hp) : Prop := ∃ (a0 : Option Addr) (n0 : Nat) (v1 : Value) (H1 : Hp), Bor (Fl.int .u8) xr ar nr r.1 a0 n0 ∧ List.length r.1 ≤ n0 ∧ ErO 142 el r.2.1 v1 H1 ∧ u = (.tuple #[(.slice a0 (List.length r.1) n0), v1]) ∧ G = [H1, [(b_p0, Obj.cells #[y0, (.int .i64 r.2.2.f_at)] 100 (0, 0))]]
set_option maxHeartbeats 4000000 in
theorem pack_reader_costs.c {el : Nat → Addr} {b_p0 : Nat} {a_p0_b : Option Addr} {n_p0_b : Nat} (p0 : pack_reader) (n : Int) (r : ((List Int) × Er × pack_reader)) (F : Hp) (H : pack_reader_costs.f p0 n = some r) (hG : Glb 142 gs_ lits_ el F) (h_p0_b : SliceR (Fl.int .u8) p0.b a_p0_b F) (c_p0_b : List.length p0.b ≤ n_p0_b) :
    CallsL Tryd.prog 74 [(.pointer (some ⟨b_p0, 0, none⟩)), (.int .i64 n)] [[(b_p0, Obj.cells #[(.slice a_p0_b (List.length p0.b) n_p0_b), (.int .i64 p0.f_at)] 100 (0, 0))], F] (fun qp : { qp : Value × List Hp // pack_reader_costs.R el b_p0 (.slice a_p0_b (List.length p0.b) n_p0_b) p0.b a_p0_b n_p0_b r qp.1 qp.2 } => qp.1.1) (fun qp => (qp.1.2 ++ []) ++ [F]) := by
  unfold pack_reader_costs.f at H
  refine calls_atL [(0, (.pointer (some ⟨b_p0, 0, none⟩))), (1, (.int .i64 n))] Tryd.func74 rfl rfl ⟨rfl, rfl, trivial⟩ (fun W => ?_)
  refine at_seq ?_
  refine at_region [0, 1] rfl ?_
  iterate 2 refine at_s T rfl ?_
  refine at_end ?_
  refine at_sub [(0, (.pointer (some ⟨b_p0, 0, none⟩))), (1, (.int .i64 n))] ⟨rfl, rfl, trivial⟩ ?_
  refine at_then ?_
  refine at_seq ?_
  refine at_region [0, 1, 2, 3, 4, 5, 6, 7] rfl ?_
  iterate 2 refine at_s T rfl ?_
  obtain ⟨v1, V1, H⟩ := bind_e H
  refine at_cons (at_cR (As := [[(b_p0, Obj.cells #[(.slice a_p0_b (List.length p0.b) n_p0_b), (.int .i64 p0.f_at)] 100 (0, 0))]]) (R := [F]) (pack_reader_take.R el b_p0 (.slice a_p0_b (List.length p0.b) n_p0_b) p0.b a_p0_b n_p0_b v1) [] [0] rfl rfl rfl rfl has73 rfl rfl (pack_reader_take.c p0 n v1 _ V1 (glb_of hG (j := 0) rfl) (ro_of h_p0_b (j := 0) rfl) c_p0_b) ?_)
  rintro _ _ ⟨a2, n2, v3, H3, b2_, c2_, s3, rfl, rfl⟩
  iterate 5 refine at_s T rfl ?_
  refine at_end ?_
  refine at_sub [(6, (.slice a2 (List.length v1.1) n2)), (7, v3)] ⟨rfl, rfl, trivial⟩ ?_
  refine at_then ?_
  refine at_seq ?_
  obtain ⟨z3, Z2, H⟩ := bind_e H
  refine at_seq_mid (σ := Bool) (fun x2 => x2 = z3) (fun x2 => [(6, (.slice a2 (List.length v1.1) n2)), (7, v3), (19, (.bool x2))]) (fun x2 => [F, H3, [(b_p0, Obj.cells #[(.slice a_p0_b (List.length p0.b) n_p0_b), (.int .i64 v1.2.2.f_at)] 100 (0, 0))]]) ?_ ?_
  · refine at_region [0, 1, 2, 3, 4, 5] rfl ?_
    refine at_s T rfl ?_
    refine at_v rfl (g_ernil T rfl rfl rfl (err_of s3 (j := 1) rfl)) ?_
    refine at_s T rfl ?_
    refine at_case (s := 16) rfl (fun c3 => ?_) (fun c3 => ?_)
    · replace Z2 := if_t c3 Z2
      refine at_s T rfl ?_
      obtain ⟨v4, V4, Z2⟩ := bind_e Z2
      refine at_cons (at_c (B := fun _ => []) [] rfl rfl rfl rfl has45 rfl rfl (slices_Contains_byte_byte.c v1.1 0 v4 _ V4 (bor_of b2_ (ro_of h_p0_b (j := 0) rfl) c_p0_b) c2_) (fun _ => ?_))
      refine at_s T rfl ?_
      refine at_end ?_
      refine at_sub [(6, (.slice a2 (List.length v1.1) n2)), (7, v3), (19, (.bool v4))] ⟨rfl, rfl, rfl, trivial⟩ ?_
      refine at_then ?_
      obtain rfl := Option.some.inj Z2
      exact at_mid v4 [0, 0, 0] rfl ⟨rfl, rfl, rfl, trivial⟩ rfl
    · replace Z2 := if_f (bf c3) Z2
      iterate 3 refine at_s T rfl ?_
      refine at_end ?_
      refine at_sub [(6, (.slice a2 (List.length v1.1) n2)), (7, v3), (19, (.bool false))] ⟨rfl, rfl, rfl, trivial⟩ ?_
      refine at_then ?_
      obtain rfl := Option.some.inj Z2
      exact at_mid false [0, 0, 0] rfl ⟨rfl, rfl, rfl, trivial⟩ rfl
  · rintro x2 rfl
    refine at_cond rfl (fun c5 => ?_) (fun c5 => ?_)
    · replace H := if_t c5 H
      refine at_region [0, 1] rfl ?_
      refine at_v rfl (g_load T rfl rfl rfl rfl (in_glb (j := 0) rfl hG (g := 1) (by decide))) ?_
      refine at_s T rfl ?_
      refine at_end ?_
      refine at_to [(6, (.slice a2 (List.length v1.1) n2)), (7, (.iface 142 (.pointer (some (el 1)))))] [0, 1] [F, [(b_p0, Obj.cells #[(.slice a_p0_b (List.length p0.b) n_p0_b), (.int .i64 v1.2.2.f_at)] 100 (0, 0))]] ⟨rfl, rfl, trivial⟩ rfl ?_
      refine at_then ?_
      refine at_seq ?_
      refine at_region [0, 1, 2, 3] rfl ?_
      iterate 4 refine at_s T rfl ?_
      refine at_end ?_
      refine at_sub [(4, (.slice a2 (List.length v1.1) n2)), (5, (.iface 142 (.pointer (some (el 1)))))] ⟨rfl, rfl, trivial⟩ ?_
      refine at_then ?_
      refine at_ret ?_
      obtain rfl := Option.some.inj H
      refine at_addnil ?_
      exact at_post (T := T) rfl (.tmp rfl (.tmp rfl .nil)) (fun w o => ⟨⟨(_, _), ⟨a2, n2, (.iface 142 (.pointer (some (el 1)))), [], b2_, c2_, ero_glob, rfl, rfl⟩⟩, rfl, own_to [2, 1, 0] rfl o⟩)
    · replace H := if_f (bf c5) H
      refine at_skip ?_
      refine at_then ?_
      refine at_seq ?_
      refine at_region [0, 1, 2, 3] rfl ?_
      iterate 4 refine at_s T rfl ?_
      refine at_end ?_
      refine at_sub [(4, (.slice a2 (List.length v1.1) n2)), (5, v3)] ⟨rfl, rfl, trivial⟩ ?_
      refine at_then ?_
      refine at_ret ?_
      obtain rfl := Option.some.inj H
      exact at_post (T := T) rfl (.tmp rfl (.tmp rfl .nil)) (fun w o => ⟨⟨(_, _), ⟨a2, n2, v3, H3, b2_, c2_, s3, rfl, rfl⟩⟩, rfl, own_to [1, 1, 0] rfl o⟩)

/-! ### (*herdsman/pack.reader).runs: function 76 -/
def pack_reader_runs.l0 : Nat → pack_reader → Int → Int → List Int → Option (Sum ((List Int) × Er × pack_reader) ((List Int) × Int))
  | 0, _, _, _, _ => none
  | k8 + 1, p0, n, x6, x7 => if (List.length x7 : Int) < n then ((pack_reader_take.f (pack_reader.mk p0.b x6) 2).bind fun v9 => if (!(Er.isNil v9.2.1)) = true then (some (Sum.inl ([], v9.2.1, (pack_reader.mk p0.b v9.2.2.f_at)))) else (if (0 ≤ (0 : Int) ∧ (0 : Int) < (List.length v9.1 : Int)) then (if (0 ≤ (1 : Int) ∧ (1 : Int) < (List.length v9.1 : Int)) then ((if (((rd v9.1 1) == 0) || (decide ((w64 ((w64 (rd v9.1 0)) + 1)) > (w64 (n - (List.length x7 : Int)))))) = true then (some true) else (if (List.length x7 : Int) > 0 then (if (0 ≤ (w64 ((List.length x7 : Int) - 1)) ∧ (w64 ((List.length x7 : Int) - 1)) < (List.length x7 : Int)) then (some ((rd x7 (w64 ((List.length x7 : Int) - 1))) == (rd v9.1 1))) else none) else (some false))).bind fun x10 => if x10 = true then (some (Sum.inl ([], (Er.glob 1), (pack_reader.mk p0.b v9.2.2.f_at)))) else ((bytes_Repeat.f [(rd v9.1 1)] (w64 ((w64 (rd v9.1 0)) + 1))).bind fun v12 => if (List.length x7 + List.length v12 ≤ 1099511627776) then (pack_reader_runs.l0 k8 p0 n v9.2.2.f_at (x7 ++ v12)) else none)) else none) else none)) else (some (Sum.inr (x7, x6)))
def pack_reader_runs.f (p0 : pack_reader) (n : Int) : Option ((List Int) × Er × pack_reader) := (pack_reader_runs.l0 fuel p0 n p0.f_at []).bind fun zz => match zz with | Sum.inl q => some q | Sum.inr (x1, x2) => some (x1, Er.nil, (pack_reader.mk p0.b x2))
def pack_reader_runs.R (el : Nat → Addr) (b_p0 : Nat) (y0 : Value) (r : ((List Int) × Er × pack_reader)) (u : Value) (G : List Hp) : Prop := ∃ (a0 : Option Addr) (n0 : Nat) (H0 : Hp) (v1 : Value) (H1 : Hp), SliceO (Fl.int .u8) 5 r.1 a0 n0 H0 ∧ ErO 142 el r.2.1 v1 H1 ∧ u = (.tuple #[(.slice a0 (List.length r.1) n0), v1]) ∧ G = [H0, H1, [(b_p0, Obj.cells #[y0, (.int .i64 r.2.2.f_at)] 100 (0, 0))]]
set_option maxHeartbeats 4000000 in
theorem pack_reader_runs.c {el : Nat → Addr} {b_p0 : Nat} {a_p0_b : Option Addr} {n_p0_b : Nat} (p0 : pack_reader) (n : Int) (r : ((List Int) × Er × pack_reader)) (F : Hp) (H : pack_reader_runs.f p0 n = some r) (hG : Glb 142 gs_ lits_ el F) (h_p0_b : SliceR (Fl.int .u8) p0.b a_p0_b F) (c_p0_b : List.length p0.b ≤ n_p0_b) :
    CallsL Tryd.prog 76 [(.pointer (some ⟨b_p0, 0, none⟩)), (.int .i64 n)] [[(b_p0, Obj.cells #[(.slice a_p0_b (List.length p0.b) n_p0_b), (.int .i64 p0.f_at)] 100 (0, 0))], F] (fun qp : { qp : Value × List Hp // pack_reader_runs.R el b_p0 (.slice a_p0_b (List.length p0.b) n_p0_b) r qp.1 qp.2 } => qp.1.1) (fun qp => (qp.1.2 ++ []) ++ [F]) := by
  unfold pack_reader_runs.f at H
  refine calls_atL [(0, (.pointer (some ⟨b_p0, 0, none⟩))), (1, (.int .i64 n))] Tryd.func76 rfl rfl ⟨rfl, rfl, trivial⟩ (fun W => ?_)
  refine at_seq ?_
  refine at_region [0, 1] rfl ?_
  iterate 2 refine at_s T rfl ?_
  refine at_end ?_
  refine at_sub [(0, (.pointer (some ⟨b_p0, 0, none⟩))), (1, (.int .i64 n))] ⟨rfl, rfl, trivial⟩ ?_
  refine at_then ?_
  refine at_seq ?_
  refine at_region [0] rfl ?_
  refine at_s T rfl ?_
  refine at_end ?_
  refine at_sub [(0, (.pointer (some ⟨b_p0, 0, none⟩))), (1, (.int .i64 n)), (6, (.slice none 0 0))] ⟨rfl, rfl, rfl, trivial⟩ ?_
  refine at_then ?_
  obtain ⟨z3, Z1, H⟩ := bind_e H
  refine at_seq_mid (σ := List Int × Int × Option Addr × Nat × Hp) (fun ⟨x1, x2, a2, n2, H2⟩ => (Sum.inr (x1, x2)) = z3 ∧ SliceO (Fl.int .u8) 5 x1 a2 n2 H2) (fun ⟨x1, x2, a2, n2, H2⟩ => [(6, (.slice a2 (List.length x1) n2))]) (fun ⟨x1, x2, a2, n2, H2⟩ => [F, H2, [(b_p0, Obj.cells #[(.slice a_p0_b (List.length p0.b) n_p0_b), (.int .i64 x2)] 100 (0, 0))]]) ?_ ?_
  · refine at_block ?_
    refine at_addnil ?_
    refine at_loopL (σ := Nat × Int × List Int × Option Addr × Nat × Hp) (fun ⟨k8, x6, x7, a4, n4, H4⟩ => pack_reader_runs.l0 k8 p0 n x6 x7 = some z3 ∧ SliceO (Fl.int .u8) 5 x7 a4 n4 H4) (fun ⟨k8, x6, x7, a4, n4, H4⟩ => [(0, (.pointer (some ⟨b_p0, 0, none⟩))), (1, (.int .i64 n)), (6, (.slice a4 (List.length x7) n4))]) (fun ⟨k8, x6, x7, a4, n4, H4⟩ => [F, [(b_p0, Obj.cells #[(.slice a_p0_b (List.length p0.b) n_p0_b), (.int .i64 x6)] 100 (0, 0))], H4]) (fun s => s.1) (fuel, p0.f_at, [], none, 0, []) [1, 0, 0] ⟨Z1, SliceO.nil⟩ ⟨rfl, rfl, rfl, trivial⟩ rfl ?_
    rintro ⟨k8, x6, x7, a4, n4, H4⟩ ⟨Z2, s4⟩
    replace Z2 : pack_reader_runs.l0 k8 p0 n x6 x7 = some z3 := Z2
    rcases k8 with _ | k8
    · rw [pack_reader_runs.l0] at Z2; cases Z2
    · rw [pack_reader_runs.l0] at Z2
      refine at_seq ?_
      refine at_seq ?_
      refine at_region [0, 1, 2, 3] rfl ?_
      iterate 4 refine at_s T rfl ?_
      refine at_end ?_
      refine at_sub [(0, (.pointer (some ⟨b_p0, 0, none⟩))), (1, (.int .i64 n)), (6, (.slice a4 (List.length x7) n4)), (14, (.bool (decide ((List.length x7 : Int) < n))))] ⟨rfl, rfl, rfl, rfl, trivial⟩ ?_
      refine at_then ?_
      refine at_cond rfl (fun c3 => ?_) (fun c3 => ?_)
      · replace Z2 := if_t (of_decide_eq_true c3) Z2
        refine at_skip ?_
        refine at_then ?_
        refine at_block ?_
        refine at_seq ?_
        refine at_region [0, 1, 2, 3, 4, 5, 6] rfl ?_
        refine at_s T rfl ?_
        obtain ⟨v9, V4, Z2⟩ := bind_e Z2
        refine at_cons (at_cR (As := [[(b_p0, Obj.cells #[(.slice a_p0_b (List.length p0.b) n_p0_b), (.int .i64 x6)] 100 (0, 0))]]) (R := [F, H4]) (pack_reader_take.R el b_p0 (.slice a_p0_b (List.length p0.b) n_p0_b) p0.b a_p0_b n_p0_b v9) [] [1] rfl rfl rfl rfl has73 rfl rfl (pack_reader_take.c (pack_reader.mk p0.b x6) 2 v9 _ V4 (glb_of hG (j := 0) rfl) (ro_of h_p0_b (j := 0) rfl) c_p0_b) ?_)
        rintro _ _ ⟨a5, n5, v6, H6, b5_, c5_, s6, rfl, rfl⟩
        iterate 5 refine at_s T rfl ?_
        refine at_end ?_
        refine at_sub [(0, (.pointer (some ⟨b_p0, 0, none⟩))), (1, (.int .i64 n)), (6, (.slice a4 (List.length x7) n4)), (7, (.slice a5 (List.length v9.1) n5)), (8, v6)] ⟨rfl, rfl, rfl, rfl, rfl, trivial⟩ ?_
        refine at_then ?_
        refine at_seq ?_
        refine at_seq ?_
        refine at_region [0, 1] rfl ?_
        refine at_s T rfl ?_
        refine at_v rfl (g_ernilN T rfl rfl rfl (err_of s6 (j := 2) rfl)) ?_
        refine at_end ?_
        refine at_sub [(0, (.pointer (some ⟨b_p0, 0, none⟩))), (1, (.int .i64 n)), (6, (.slice a4 (List.length x7) n4)), (7, (.slice a5 (List.length v9.1) n5)), (8, v6), (21, (.bool (!(Er.isNil v9.2.1))))] ⟨rfl, rfl, rfl, rfl, rfl, rfl, trivial⟩ ?_
        refine at_then ?_
        refine at_cond rfl (fun c5 => ?_) (fun c5 => ?_)
        · replace Z2 := if_t c5 Z2
          refine at_seq ?_
          refine at_region [0, 1, 2] rfl ?_
          iterate 3 refine at_s T rfl ?_
          refine at_end ?_
          refine at_to [(4, (.slice none 0 0)), (5, v6)] [0, 1, 1] [F, H6, [(b_p0, Obj.cells #[(.slice a_p0_b (List.length p0.b) n_p0_b), (.int .i64 v9.2.2.f_at)] 100 (0, 0))]] ⟨rfl, rfl, trivial⟩ rfl ?_
          refine at_then ?_
          refine at_ret ?_
          refine at_rt ?_
          refine at_rb ?_
          refine at_rt ?_
          refine at_rb ?_
          refine at_rt ?_
          obtain rfl := Option.some.inj Z2
          obtain rfl := Option.some.inj (show some ([], v9.2.1, (pack_reader.mk p0.b v9.2.2.f_at)) = some r from H)
          refine at_addnil ?_
          exact at_post (T := T) rfl (.tmp rfl (.tmp rfl .nil)) (fun w o => ⟨⟨(_, _), ⟨none, 0, [], v6, H6, SliceO.nil, s6, rfl, rfl⟩⟩, rfl, own_to [3, 1, 1, 0] rfl o⟩)
        · replace Z2 := if_f (bf c5) Z2
          refine at_skip ?_
          refine at_then ?_
          refine at_seq ?_
          refine at_region_q mix (by kernel_rfl) ?_
          refine atq_s T rfl ?_
          obtain ⟨c6, Z2⟩ := chk_e Z2
          obtain ⟨q8, o8, e8⟩ := (Bor.r b5_ h_p0_b c_p0_b).addr c6.1 c6.2
          refine atq_v rfl rfl rfl (g_index T rfl rfl rfl rfl rfl e8 c6.1 c6.2) ?_
          refine atq_v rfl rfl rfl (g_load T rfl rfl rfl rfl (in_elem1 (k := (Fl.int .u8)) (bor_of b5_ (ro_of h_p0_b (j := 0) rfl) c_p0_b) e8 c6 0 rfl)) ?_
          iterate 3 refine atq_s T rfl ?_
          obtain ⟨c7, Z2⟩ := chk_e Z2
          refine atq_v rfl rfl rfl (g_index T rfl rfl rfl rfl rfl e8 c7.1 c7.2) ?_
          refine atq_v rfl rfl rfl (g_load T rfl rfl rfl rfl (in_elem1 (k := (Fl.int .u8)) (bor_of b5_ (ro_of h_p0_b (j := 0) rfl) c_p0_b) e8 c7 0 rfl)) ?_
          iterate 2 refine atq_s T rfl ?_
          refine atq_end ?_
          refine at_to [(0, (.pointer (some ⟨b_p0, 0, none⟩))), (1, (.int .i64 n)), (6, (.slice a4 (List.length x7) n4)), (9, (.int .i64 (w64 ((w64 (rd v9.1 0)) + 1)))), (10, (.int .u8 (rd v9.1 1)))] [0, 0, 1] [F, H4, [(b_p0, Obj.cells #[(.slice a_p0_b (List.length p0.b) n_p0_b), (.int .i64 v9.2.2.f_at)] 100 (0, 0))]] ⟨rfl, rfl, rfl, rfl, rfl, trivial⟩ rfl ?_
          refine at_then ?_
          refine at_seq ?_
          obtain ⟨z11, Z8, Z2⟩ := bind_e Z2
          refine at_seq_mid (σ := Bool) (fun x10 => x10 = z11) (fun x10 => [(0, (.pointer (some ⟨b_p0, 0, none⟩))), (1, (.int .i64 n)), (6, (.slice a4 (List.length x7) n4)), (9, (.int .i64 (w64 ((w64 (rd v9.1 0)) + 1)))), (10, (.int .u8 (rd v9.1 1))), (55, (.bool x10))]) (fun x10 => [F, [(b_p0, Obj.cells #[(.slice a_p0_b (List.length p0.b) n_p0_b), (.int .i64 v9.2.2.f_at)] 100 (0, 0))], H4]) ?_ ?_
          · refine at_region [0, 1, 2, 3, 4, 5, 6, 7, 8, 9, 10, 11, 12, 13, 14, 15, 16, 17, 18, 19, 20, 21, 22, 23, 24] rfl ?_
            iterate 3 refine at_s T rfl ?_
            refine at_grp T [3, 4, 5, 6, 7, 8, 9] (s := 33) (c := ((rd v9.1 1) == 0)) [(0, (.pointer (some ⟨b_p0, 0, none⟩))), (1, (.int .i64 n)), (6, (.slice a4 (List.length x7) n4)), (9, (.int .i64 (w64 ((w64 (rd v9.1 0)) + 1)))), (10, (.int .u8 (rd v9.1 1))), (40, (.bool (((rd v9.1 1) == 0) || (decide ((w64 ((w64 (rd v9.1 0)) + 1)) > (w64 (n - (List.length x7 : Int))))))))] rfl rfl rfl (fun c9 => ⟨rfl, rfl, rfl, rfl, rfl, (by rw [c9]; rfl), trivial⟩) (fun c9 => ⟨rfl, rfl, rfl, rfl, rfl, (by rw [c9]; rfl), trivial⟩) ?_
            refine at_s T rfl ?_
            refine at_case (s := 41) rfl (fun c10 => ?_) (fun c10 => ?_)
            · replace Z8 := if_t c10 Z8
              iterate 14 refine at_s T rfl ?_
              refine at_end ?_
              refine at_sub [(0, (.pointer (some ⟨b_p0, 0, none⟩))), (1, (.int .i64 n)), (6, (.slice a4 (List.length x7) n4)), (9, (.int .i64 (w64 ((w64 (rd v9.1 0)) + 1)))), (10, (.int .u8 (rd v9.1 1))), (55, (.bool true))] ⟨rfl, rfl, rfl, rfl, rfl, rfl, trivial⟩ ?_
              refine at_then ?_
              obtain rfl := Option.some.inj Z8
              exact at_mid true [0, 1, 0] rfl ⟨rfl, rfl, rfl, rfl, rfl, rfl, trivial⟩ rfl
            · replace Z8 := if_f (bf c10) Z8
              iterate 4 refine at_s T rfl ?_
              refine at_case (s := 45) rfl (fun c11 => ?_) (fun c11 => ?_)
              · replace Z8 := if_t (of_decide_eq_true c11) Z8
                iterate 4 refine at_s T rfl ?_
                obtain ⟨c12, Z8⟩ := chk_e Z8
                obtain ⟨q9, o9, e9⟩ := s4.r.addr c12.1 c12.2
                refine at_v rfl (g_index T rfl rfl rfl rfl rfl e9 c12.1 c12.2) ?_
                refine at_v rfl (g_load T rfl rfl rfl rfl (in_elem1 (k := (Fl.int .u8)) (own_of s4 (j := 1) rfl) e9 c12 0 rfl)) ?_
                iterate 4 refine at_s T rfl ?_
                refine at_end ?_
                refine at_sub [(0, (.pointer (some ⟨b_p0, 0, none⟩))), (1, (.int .i64 n)), (6, (.slice a4 (List.length x7) n4)), (9, (.int .i64 (w64 ((w64 (rd v9.1 0)) + 1)))), (10, (.int .u8 (rd v9.1 1))), (55, (.bool ((rd x7 (w64 ((List.length x7 : Int) - 1))) == (rd v9.1 1))))] ⟨rfl, rfl, rfl, rfl, rfl, rfl, trivial⟩ ?_
                refine at_then ?_
                obtain rfl := Option.some.inj Z8
                exact at_mid ((rd x7 (w64 ((List.length x7 : Int) - 1))) == (rd v9.1 1)) [0, 1, 0] rfl ⟨rfl, rfl, rfl, rfl, rfl, rfl, trivial⟩ rfl
              · replace Z8 := if_f (of_decide_eq_false c11) Z8
                iterate 10 refine at_s T rfl ?_
                refine at_end ?_
                refine at_sub [(0, (.pointer (some ⟨b_p0, 0, none⟩))), (1, (.int .i64 n)), (6, (.slice a4 (List.length x7) n4)), (9, (.int .i64 (w64 ((w64 (rd v9.1 0)) + 1)))), (10, (.int .u8 (rd v9.1 1))), (55, (.bool false))] ⟨rfl, rfl, rfl, rfl, rfl, rfl, trivial⟩ ?_
                refine at_then ?_
                obtain rfl := Option.some.inj Z8
                exact at_mid false [0, 1, 0] rfl ⟨rfl, rfl, rfl, rfl, rfl, rfl, trivial⟩ rfl
          · rintro x10 rfl
            refine at_cond rfl (fun c13 => ?_) (fun c13 => ?_)
            · replace Z2 := if_t c13 Z2
              refine at_seq ?_
              refine at_region_q mix (by kernel_rfl) ?_
              refine atq_v rfl rfl rfl (g_load T rfl rfl rfl rfl (in_glb (j := 0) rfl hG (g := 1) (by decide))) ?_
              iterate 2 refine atq_s T rfl ?_
              refine atq_end ?_
              refine at_to [(4, (.slice none 0 0)), (5, (.iface 142 (.pointer (some (el 1)))))] [0, 0] [F, [(b_p0, Obj.cells #[(.slice a_p0_b (List.length p0.b) n_p0_b), (.int .i64 v9.2.2.f_at)] 100 (0, 0))]] ⟨rfl, rfl, trivial⟩ rfl ?_
              refine at_then ?_
              refine at_ret ?_
              refine at_rt ?_
              refine at_rb ?_
              refine at_rt ?_
              refine at_rb ?_
              refine at_rt ?_
              obtain rfl := Option.some.inj Z2
              obtain rfl := Option.some.inj (show some ([], (Er.glob 1), (pack_reader.mk p0.b v9.2.2.f_at)) = some r from H)
              refine at_addnil ?_
              refine at_addnil ?_
              exact at_post (T := T) rfl (.tmp rfl (.tmp rfl .nil)) (fun w o => ⟨⟨(_, _), ⟨none, 0, [], (.iface 142 (.pointer (some (el 1)))), [], SliceO.nil, ero_glob, rfl, rfl⟩⟩, rfl, own_to [2, 2, 1, 0] rfl o⟩)
            · replace Z2 := if_f (bf c13) Z2
              refine at_skip ?_
              refine at_then ?_
              refine at_region [0, 1, 2, 3, 4, 5, 6] rfl ?_
              iterate 2 refine at_s T rfl ?_
              refine at_cons (at_bs (k := (Fl.int .u8)) T [(rd v9.1 1)] rfl rfl rfl rfl rfl rfl rfl rfl rfl (fun a12 H12 s12 => ?_))
              refine at_s T rfl ?_
              obtain ⟨v12, V14, Z2⟩ := bind_e Z2
              refine at_cons (at_cR (bytes_Repeat.R v12) [] [] rfl rfl rfl rfl has75 rfl rfl (bytes_Repeat.c [(rd v9.1 1)] (w64 ((w64 (rd v9.1 0)) + 1)) v12 _ V14 (own_of s12 (j := 3) rfl) s12.cap_le) ?_)
              rintro _ _ ⟨a13, n13, H13, s13, rfl, rfl⟩
              obtain ⟨c15, Z2⟩ := chk_e Z2
              refine at_cons (at_ap (k := (Fl.int .u8)) (xs := x7) T (g := 2) rfl rfl rfl rfl rfl rfl rfl rfl rfl rfl s4 (own_of s13 (j := 4) rfl) c15 rfl (fun a14 n14 H14 s14 => ?_))
              refine at_s T rfl ?_
              refine at_end ?_
              refine at_to [(0, (.pointer (some ⟨b_p0, 0, none⟩))), (1, (.int .i64 n)), (6, (.slice a14 (List.length (x7 ++ v12)) n14))] [0, 0, 0] [F, [(b_p0, Obj.cells #[(.slice a_p0_b (List.length p0.b) n_p0_b), (.int .i64 v9.2.2.f_at)] 100 (0, 0))], H14] ⟨rfl, rfl, rfl, trivial⟩ rfl ?_
              refine at_nb ?_
              refine at_then ?_
              exact at_roundL (k8, v9.2.2.f_at, (x7 ++ v12), a14, n14, H14) [0, 0, 0] ⟨Z2, s14⟩ (Nat.lt_succ_self _) ⟨rfl, rfl, rfl, trivial⟩ rfl
      · replace Z2 := if_f (of_decide_eq_false c3) Z2
        refine at_exit ?_
        refine at_xt ?_
        refine at_xt ?_
        refine at_xb ?_
        refine at_then ?_
        obtain rfl := Option.some.inj Z2
        exact at_mid (x7, x6, a4, n4, H4) [0, 1, 0] ⟨rfl, s4⟩ ⟨rfl, trivial⟩ rfl
  · rintro ⟨x1, x2, a2, n2, H2⟩ ⟨rfl, s2⟩
    refine at_seq ?_
    refine at_region [0, 1, 2] rfl ?_
    iterate 3 refine at_s T rfl ?_
    refine at_end ?_
    refine at_sub [(4, (.slice a2 (List.length x1) n2)), (5, .nilIface)] ⟨rfl, rfl, trivial⟩ ?_
    refine at_then ?_
    refine at_ret ?_
    obtain rfl := Option.some.inj H
    refine at_addnil ?_
    exact at_post (T := T) rfl (.tmp rfl (.tmp rfl .nil)) (fun w o => ⟨⟨(_, _), ⟨a2, n2, H2, .nilIface, [], s2, ero_nil, rfl, rfl⟩⟩, rfl, own_to [1, 2, 1, 0] rfl o⟩)

/-! ### (*herdsman/pack.reader).body: function 68 -/
def pack_reader_body.f (p0 : pack_reader) (n : Int) : Option ((List Int) × Er × pack_reader) := (pack_reader_take.f p0 1).bind fun v1 => if (!(Er.isNil v1.2.1)) = true then (some ([], v1.2.1, (pack_reader.mk p0.b v1.2.2.f_at))) else (if (0 ≤ (0 : Int) ∧ (0 : Int) < (List.length v1.1 : Int)) then (if ((rd v1.1 0) == 0) = true then ((pack_reader_costs.f (pack_reader.mk p0.b v1.2.2.f_at) 1).bind fun v2 => (bytes_Repeat.f v2.1 n).bind fun v3 => some (v3, v2.2.1, (pack_reader.mk p0.b v2.2.2.f_at))) else (if ((rd v1.1 0) == 1) = true then ((pack_reader_costs.f (pack_reader.mk p0.b v1.2.2.f_at) n).bind fun v4 => some (v4.1, v4.2.1, (pack_reader.mk p0.b v4.2.2.f_at))) else (if ((rd v1.1 0) == 2) = true then ((pack_reader_runs.f (pack_reader.mk p0.b v1.2.2.f_at) n).bind fun v5 => some (v5.1, v5.2.1, (pack_reader.mk p0.b v5.2.2.f_at))) else (some ([], (Er.glob 1), (pack_reader.mk p0.b v1.2.2.f_at)))))) else none)
def pack_reader_body.R (el : Nat → Addr) (b_p0 : Nat) (y0 : Value) (xr : List Int) (ar : Option Addr) (nr : Nat) (r : ((List Int) × Er × pack_reader)) (u : Value) (G : List Hp) : Prop := ∃ (a0 : Option Addr) (n0 : Nat) (H0 : Hp) (v1 : Value) (H1 : Hp), BoO (Fl.int .u8) 5 xr ar nr r.1 a0 n0 H0 ∧ ErO 142 el r.2.1 v1 H1 ∧ u = (.tuple #[(.slice a0 (List.length r.1) n0), v1]) ∧ G = [H0, H1, [(b_p0, Obj.cells #[y0, (.int .i64 r.2.2.f_at)] 100 (0, 0))]]
set_option maxHeartbeats 4000000 in
theorem pack_reader_body.c {el : Nat → Addr} {b_p0 : Nat} {a_p0_b : Option Addr} {n_p0_b : Nat} (p0 : pack_reader) (n : Int) (r : ((List Int) × Er × pack_reader)) (F : Hp) (H : pack_reader_body.f p0 n = some r) (hG : Glb 142 gs_ lits_ el F) (h_p0_b : SliceR (Fl.int .u8) p0.b a_p0_b F) (c_p0_b : List.length p0.b ≤ n_p0_b) :
    CallsL Tryd.prog 68 [(.pointer (some ⟨b_p0, 0, none⟩)), (.int .i64 n)] [[(b_p0, Obj.cells #[(.slice a_p0_b (List.length p0.b) n_p0_b), (.int .i64 p0.f_at)] 100 (0, 0))], F] (fun qp : { qp : Value × List Hp // pack_reader_body.R el b_p0 (.slice a_p0_b (List.length p0.b) n_p0_b) p0.b a_p0_b n_p0_b r qp.1 qp.2 } => qp.1.1) (fun qp => (qp.1.2 ++ []) ++ [F]) := by
  unfold pack_reader_body.f at H
  refine calls_atL [(0, (.pointer (some ⟨b_p0, 0, none⟩))), (1, (.int .i64 n))] Tryd.func68 rfl rfl ⟨rfl, rfl, trivial⟩ (fun W => ?_)
  refine at_seq ?_
  refine at_region [0, 1] rfl ?_
  iterate 2 refine at_s T rfl ?_
  refine at_end ?_
  refine at_sub [(0, (.pointer (some ⟨b_p0, 0, none⟩))), (1, (.int .i64 n))] ⟨rfl, rfl, trivial⟩ ?_
  refine at_then ?_
  refine at_seq ?_
  refine at_region [0, 1, 2, 3, 4, 5, 6] rfl ?_
  refine at_s T rfl ?_
  obtain ⟨v1, V1, H⟩ := bind_e H
  refine at_cons (at_cR (As := [[(b_p0, Obj.cells #[(.slice a_p0_b (List.length p0.b) n_p0_b), (.int .i64 p0.f_at)] 100 (0, 0))]]) (R := [F]) (pack_reader_take.R el b_p0 (.slice a_p0_b (List.length p0.b) n_p0_b) p0.b a_p0_b n_p0_b v1) [] [0] rfl rfl rfl rfl has73 rfl rfl (pack_reader_take.c p0 1 v1 _ V1 (glb_of hG (j := 0) rfl) (ro_of h_p0_b (j := 0) rfl) c_p0_b) ?_)
  rintro _ _ ⟨a2, n2, v3, H3, b2_, c2_, s3, rfl, rfl⟩
  iterate 5 refine at_s T rfl ?_
  refine at_end ?_
  refine at_sub [(0, (.pointer (some ⟨b_p0, 0, none⟩))), (1, (.int .i64 n)), (6, (.slice a2 (List.length v1.1) n2)), (7, v3)] ⟨rfl, rfl, rfl, rfl, trivial⟩ ?_
  refine at_then ?_
  refine at_seq ?_
  refine at_seq ?_
  refine at_region [0, 1] rfl ?_
  refine at_s T rfl ?_
  refine at_v rfl (g_ernilN T rfl rfl rfl (err_of s3 (j := 1) rfl)) ?_
  refine at_end ?_
  refine at_sub [(0, (.pointer (some ⟨b_p0, 0, none⟩))), (1, (.int .i64 n)), (6, (.slice a2 (List.length v1.1) n2)), (7, v3), (16, (.bool (!(Er.isNil v1.2.1))))] ⟨rfl, rfl, rfl, rfl, rfl, trivial⟩ ?_
  refine at_then ?_
  refine at_cond rfl (fun c2 => ?_) (fun c2 => ?_)
  · replace H := if_t c2 H
    refine at_seq ?_
    refine at_region [0, 1, 2] rfl ?_
    iterate 3 refine at_s T rfl ?_
    refine at_end ?_
    refine at_sub [(4, (.slice none 0 0)), (5, v3)] ⟨rfl, rfl, trivial⟩ ?_
    refine at_then ?_
    refine at_ret ?_
    refine at_rt ?_
    obtain rfl := Option.some.inj H
    refine at_addnil ?_
    exact at_post (T := T) rfl (.tmp rfl (.tmp rfl .nil)) (fun w o => ⟨⟨(_, _), ⟨none, 0, [], v3, H3, (.inl ⟨Bor.nil, Nat.zero_le _, rfl⟩), s3, rfl, rfl⟩⟩, rfl, own_to [3, 1, 1, 0] rfl o⟩)
  · replace H := if_f (bf c2) H
    refine at_skip ?_
    refine at_then ?_
    refine at_seq ?_
    refine at_seq ?_
    refine at_region [0, 1, 2] rfl ?_
    refine at_s T rfl ?_
    obtain ⟨c3, H⟩ := chk_e H
    obtain ⟨q5, o5, e5⟩ := (Bor.r b2_ h_p0_b c_p0_b).addr c3.1 c3.2
    refine at_v rfl (g_index T rfl rfl rfl rfl rfl e5 c3.1 c3.2) ?_
    refine at_v rfl (g_load T rfl rfl rfl rfl (in_elem1 (k := (Fl.int .u8)) (bor_of b2_ (ro_of h_p0_b (j := 0) rfl) c_p0_b) e5 c3 0 rfl)) ?_
    refine at_end ?_
    refine at_to [(0, (.pointer (some ⟨b_p0, 0, none⟩))), (1, (.int .i64 n)), (20, (.int .u8 (rd v1.1 0)))] [0, 1] [F, [(b_p0, Obj.cells #[(.slice a_p0_b (List.length p0.b) n_p0_b), (.int .i64 v1.2.2.f_at)] 100 (0, 0))]] ⟨rfl, rfl, rfl, trivial⟩ rfl ?_
    refine at_then ?_
    refine at_block ?_
    refine at_seq ?_
    refine at_region [0, 1] rfl ?_
    iterate 2 refine at_s T rfl ?_
    refine at_end ?_
    refine at_sub [(0, (.pointer (some ⟨b_p0, 0, none⟩))), (1, (.int .i64 n)), (20, (.int .u8 (rd v1.1 0))), (21, (.bool ((rd v1.1 0) == 0)))] ⟨rfl, rfl, rfl, rfl, trivial⟩ ?_
    refine at_then ?_
    refine at_cond rfl (fun c4 => ?_) (fun c4 => ?_)
    · replace H := if_t c4 H
      refine at_seq ?_
      refine at_region [0, 1, 2, 3, 4, 5, 6] rfl ?_
      refine at_s T rfl ?_
      obtain ⟨v2, V5, H⟩ := bind_e H
      refine at_cons (at_cR (As := [[(b_p0, Obj.cells #[(.slice a_p0_b (List.length p0.b) n_p0_b), (.int .i64 v1.2.2.f_at)] 100 (0, 0))]]) (R := [F]) (pack_reader_costs.R el b_p0 (.slice a_p0_b (List.length p0.b) n_p0_b) p0.b a_p0_b n_p0_b v2) [] [1] rfl rfl rfl rfl has74 rfl rfl (pack_reader_costs.c (pack_reader.mk p0.b v1.2.2.f_at) 1 v2 _ V5 (glb_of hG (j := 0) rfl) (ro_of h_p0_b (j := 0) rfl) c_p0_b) ?_)
      rintro _ _ ⟨a6, n6, v7, H7, b6_, c6_, s7, rfl, rfl⟩
      iterate 5 refine at_s T rfl ?_
      refine at_end ?_
      refine at_sub [(1, (.int .i64 n)), (8, (.slice a6 (List.length v2.1) n6)), (9, v7)] ⟨rfl, rfl, rfl, trivial⟩ ?_
      refine at_then ?_
      refine at_seq ?_
      refine at_region [0, 1, 2, 3, 4, 5] rfl ?_
      iterate 2 refine at_s T rfl ?_
      obtain ⟨v3, V6, H⟩ := bind_e H
      refine at_cons (at_cR (bytes_Repeat.R v3) [] [] rfl rfl rfl rfl has75 rfl rfl (bytes_Repeat.c v2.1 n v3 _ V6 (bor_of b6_ (ro_of h_p0_b (j := 0) rfl) c_p0_b) c6_) ?_)
      rintro _ _ ⟨a8, n8, H8, s8, rfl, rfl⟩
      iterate 3 refine at_s T rfl ?_
      refine at_end ?_
      refine at_sub [(4, (.slice a8 (List.length v3) n8)), (5, v7)] ⟨rfl, rfl, trivial⟩ ?_
      refine at_then ?_
      refine at_ret ?_
      refine at_rb ?_
      refine at_rt ?_
      obtain rfl := Option.some.inj H
      exact at_post (T := T) rfl (.tmp rfl (.tmp rfl .nil)) (fun w o => ⟨⟨(_, _), ⟨a8, n8, H8, v7, H7, (.inr s8), s7, rfl, rfl⟩⟩, rfl, own_to [3, 1, 1, 0] rfl o⟩)
    · replace H := if_f (bf c4) H
      refine at_seq ?_
      refine at_region [0, 1] rfl ?_
      iterate 2 refine at_s T rfl ?_
      refine at_end ?_
      refine at_sub [(0, (.pointer (some ⟨b_p0, 0, none⟩))), (1, (.int .i64 n)), (20, (.int .u8 (rd v1.1 0))), (32, (.bool ((rd v1.1 0) == 1)))] ⟨rfl, rfl, rfl, rfl, trivial⟩ ?_
      refine at_then ?_
      refine at_cond rfl (fun c7 => ?_) (fun c7 => ?_)
      · replace H := if_t c7 H
        refine at_seq ?_
        refine at_region [0, 1, 2, 3, 4, 5, 6] rfl ?_
        iterate 2 refine at_s T rfl ?_
        obtain ⟨v4, V8, H⟩ := bind_e H
        refine at_cons (at_cR (As := [[(b_p0, Obj.cells #[(.slice a_p0_b (List.length p0.b) n_p0_b), (.int .i64 v1.2.2.f_at)] 100 (0, 0))]]) (R := [F]) (pack_reader_costs.R el b_p0 (.slice a_p0_b (List.length p0.b) n_p0_b) p0.b a_p0_b n_p0_b v4) [] [1] rfl rfl rfl rfl has74 rfl rfl (pack_reader_costs.c (pack_reader.mk p0.b v1.2.2.f_at) n v4 _ V8 (glb_of hG (j := 0) rfl) (ro_of h_p0_b (j := 0) rfl) c_p0_b) ?_)
        rintro _ _ ⟨a9, n9, v10, H10, b9_, c9_, s10, rfl, rfl⟩
        iterate 4 refine at_s T rfl ?_
        refine at_end ?_
        refine at_sub [(4, (.slice a9 (List.length v4.1) n9)), (5, v10)] ⟨rfl, rfl, trivial⟩ ?_
        refine at_then ?_
        refine at_ret ?_
        refine at_rb ?_
        refine at_rt ?_
        obtain rfl := Option.some.inj H
        refine at_addnil ?_
        exact at_post (T := T) rfl (.tmp rfl (.tmp rfl .nil)) (fun w o => ⟨⟨(_, _), ⟨a9, n9, [], v10, H10, (.inl ⟨b9_, c9_, rfl⟩), s10, rfl, rfl⟩⟩, rfl, own_to [3, 1, 1, 0] rfl o⟩)
      · replace H := if_f (bf c7) H
        refine at_seq ?_
        refine at_region [0, 1] rfl ?_
        iterate 2 refine at_s T rfl ?_
        refine at_end ?_
        refine at_sub [(0, (.pointer (some ⟨b_p0, 0, none⟩))), (1, (.int .i64 n)), (39, (.bool ((rd v1.1 0) == 2)))] ⟨rfl, rfl, rfl, trivial⟩ ?_
        refine at_then ?_
        refine at_cond rfl (fun c9 => ?_) (fun c9 => ?_)
        · replace H := if_t c9 H
          refine at_seq ?_
          refine at_region [0, 1, 2, 3, 4, 5, 6] rfl ?_
          iterate 2 refine at_s T rfl ?_
          obtain ⟨v5, V10, H⟩ := bind_e H
          refine at_cons (at_cR (As := [[(b_p0, Obj.cells #[(.slice a_p0_b (List.length p0.b) n_p0_b), (.int .i64 v1.2.2.f_at)] 100 (0, 0))]]) (R := [F]) (pack_reader_runs.R el b_p0 (.slice a_p0_b (List.length p0.b) n_p0_b) v5) [] [1] rfl rfl rfl rfl has76 rfl rfl (pack_reader_runs.c (pack_reader.mk p0.b v1.2.2.f_at) n v5 _ V10 (glb_of hG (j := 0) rfl) (ro_of h_p0_b (j := 0) rfl) c_p0_b) ?_)
          rintro _ _ ⟨a12, n12, H12, v13, H13, s12, s13, rfl, rfl⟩
          iterate 4 refine at_s T rfl ?_
          refine at_end ?_
          refine at_sub [(4, (.slice a12 (List.length v5.1) n12)), (5, v13)] ⟨rfl, rfl, trivial⟩ ?_
          refine at_then ?_
          refine at_ret ?_
          refine at_rb ?_
          refine at_rt ?_
          obtain rfl := Option.some.inj H
          exact at_post (T := T) rfl (.tmp rfl (.tmp rfl .nil)) (fun w o => ⟨⟨(_, _), ⟨a12, n12, H12, v13, H13, (.inr s12), s13, rfl, rfl⟩⟩, rfl, own_to [1, 1, 1, 0] rfl o⟩)
        · replace H := if_f (bf c9) H
          refine at_skip ?_
          refine at_nb ?_
          refine at_then ?_
          refine at_seq ?_
          refine at_region_q mix (by kernel_rfl) ?_
          refine atq_v rfl rfl rfl (g_load T rfl rfl rfl rfl (in_glb (j := 0) rfl hG (g := 1) (by decide))) ?_
          iterate 2 refine atq_s T rfl ?_
          refine atq_end ?_
          refine at_sub [(4, (.slice none 0 0)), (5, (.iface 142 (.pointer (some (el 1)))))] ⟨rfl, rfl, trivial⟩ ?_
          refine at_then ?_
          refine at_ret ?_
          obtain rfl := Option.some.inj H
          refine at_addnil ?_
          refine at_addnil ?_
          exact at_post (T := T) rfl (.tmp rfl (.tmp rfl .nil)) (fun w o => ⟨⟨(_, _), ⟨none, 0, [], (.iface 142 (.pointer (some (el 1)))), [], (.inl ⟨Bor.nil, Nat.zero_le _, rfl⟩), ero_glob, rfl, rfl⟩⟩, rfl, own_to [2, 2, 1, 0] rfl o⟩)

/-! ### (*herdsman/pack.reader).tile: function 62 -/
def pack_reader_tile.f (p0 : pack_reader) (w : Int) (h : Int) : Option (api_Map × Er × pack_reader) := (pack_reader_body.f p0 (w64 (w * h))).bind fun v1 => (slices_Clone_byte_byte.f v1.1).bind fun v2 => (if (Er.isNil v1.2.1) = true then ((pack_Put.f (api_Map.mk w h v2)).bind fun v5 => if (0 ≤ (0 : Int) ∧ (0 : Int) ≤ v1.2.2.f_at ∧ v1.2.2.f_at ≤ (List.length p0.b : Int)) then ((bytes_Equal.f v5.1 (sub' p0.b 0 v1.2.2.f_at)).bind fun v6 => if (!v6) = true then (some (Er.glob 1)) else (some v1.2.1)) else none) else (some v1.2.1)).bind fun x3 => if (Er.isNil x3) = true then (some ((api_Map.mk w h v2), Er.nil, (pack_reader.mk p0.b v1.2.2.f_at))) else ((errors_Is.f x3 (Er.glob 2)).bind fun v7 => if v7 = true then (some ((api_Map.mk 0 0 []), (Er.wrap 103 [v1.2.2.f_at, 2] x3), (pack_reader.mk p0.b v1.2.2.f_at))) else (some ((api_Map.mk 0 0 []), (Er.wrap 103 [v1.2.2.f_at, 3] x3), (pack_reader.mk p0.b v1.2.2.f_at))))
def pack_reader_tile.R (el : Nat → Addr) (b_p0 : Nat) (y0 : Value) (r : (api_Map × Er × pack_reader)) (u : Value) (G : List Hp) : Prop := ∃ (a0 : Option Addr) (n0 : Nat) (H0 : Hp) (v1 : Value) (H1 : Hp), SliceO (Fl.int .u8) 5 r.1.C a0 n0 H0 ∧ ErO 142 el r.2.1 v1 H1 ∧ u = (.tuple #[(.agg #[(.int .i64 r.1.W), (.int .i64 r.1.H), (.slice a0 (List.length r.1.C) n0)]), v1]) ∧ G = [H0, H1, [(b_p0, Obj.cells #[y0, (.int .i64 r.2.2.f_at)] 100 (0, 0))]]
set_option maxHeartbeats 4000000 in
theorem pack_reader_tile.c {el : Nat → Addr} {b_p0 : Nat} {a_p0_b : Option Addr} {n_p0_b : Nat} (p0 : pack_reader) (w : Int) (h : Int) (r : (api_Map × Er × pack_reader)) (F : Hp) (H : pack_reader_tile.f p0 w h = some r) (hG : Glb 142 gs_ lits_ el F) (h_p0_b : SliceR (Fl.int .u8) p0.b a_p0_b F) (c_p0_b : List.length p0.b ≤ n_p0_b) :
    CallsL Tryd.prog 62 [(.pointer (some ⟨b_p0, 0, none⟩)), (.int .i64 w), (.int .i64 h)] [[(b_p0, Obj.cells #[(.slice a_p0_b (List.length p0.b) n_p0_b), (.int .i64 p0.f_at)] 100 (0, 0))], F] (fun qp : { qp : Value × List Hp // pack_reader_tile.R el b_p0 (.slice a_p0_b (List.length p0.b) n_p0_b) r qp.1 qp.2 } => qp.1.1) (fun qp => (qp.1.2 ++ []) ++ [F]) := by
  unfold pack_reader_tile.f at H
  refine calls_atL [(0, (.pointer (some ⟨b_p0, 0, none⟩))), (1, (.int .i64 w)), (2, (.int .i64 h))] Tryd.func62 rfl rfl ⟨rfl, rfl, rfl, trivial⟩ (fun W => ?_)
  refine at_seq ?_
  refine at_region [0, 1] rfl ?_
  refine at_cons (at_al T [(.int .i64 0), (.int .i64 0), (.slice none 0 0)] rfl rfl rfl rfl (fun b2 => ?_))
  refine at_s T rfl ?_
  refine at_end ?_
  refine at_sub [(0, (.pointer (some ⟨b_p0, 0, none⟩))), (1, (.int .i64 w)), (2, (.int .i64 h)), (6, (.pointer (some ⟨b2, 0, none⟩)))] ⟨rfl, rfl, rfl, rfl, trivial⟩ ?_
  refine at_then ?_
  refine at_seq ?_
  refine at_region [0, 1, 2, 3, 4, 5, 6, 7, 8, 9] rfl ?_
  iterate 4 refine at_s T rfl ?_
  obtain ⟨v1, V1, H⟩ := bind_e H
  refine at_cons (at_cR (As := [[(b_p0, Obj.cells #[(.slice a_p0_b (List.length p0.b) n_p0_b), (.int .i64 p0.f_at)] 100 (0, 0))]]) (R := [F, [(b2, Obj.cells #[(.int .i64 0), (.int .i64 0), (.slice none 0 0)] 41 (0, 0))]]) (pack_reader_body.R el b_p0 (.slice a_p0_b (List.length p0.b) n_p0_b) p0.b a_p0_b n_p0_b v1) [] [0] rfl rfl rfl rfl has68 rfl rfl (pack_reader_body.c p0 (w64 (w * h)) v1 _ V1 (glb_of hG (j := 0) rfl) (ro_of h_p0_b (j := 0) rfl) c_p0_b) ?_)
  rintro _ _ ⟨a3, n3, H3, v4, H4, s3, s4, rfl, rfl⟩
  iterate 5 refine at_s T rfl ?_
  refine at_end ?_
  refine at_sub [(0, (.pointer (some ⟨b_p0, 0, none⟩))), (1, (.int .i64 w)), (2, (.int .i64 h)), (6, (.pointer (some ⟨b2, 0, none⟩))), (8, (.slice a3 (List.length v1.1) n3)), (9, v4)] ⟨rfl, rfl, rfl, rfl, rfl, rfl, trivial⟩ ?_
  refine at_then ?_
  refine at_seq ?_
  refine at_region [0, 1, 2, 3, 4, 5, 6] rfl ?_
  iterate 3 refine at_s T rfl ?_
  obtain ⟨v2, V2, H⟩ := bind_e H
  refine at_cons (at_cR (slices_Clone_byte_byte.R v2) [] [] rfl rfl rfl rfl has69 rfl rfl (slices_Clone_byte_byte.c v1.1 v2 _ V2 (boo_of s3 (j := 2) rfl (ro_of h_p0_b (j := 0) rfl) c_p0_b) s3.cap_le) ?_)
  rintro _ _ ⟨a5, n5, H5, s5, rfl, rfl⟩
  refine at_s T rfl ?_
  refine at_cons (at_al T [(.int .i64 0), (.int .i64 0), (.slice none 0 0)] rfl rfl rfl rfl (fun b6 => ?_))
  refine at_cons (at_st T 6 [(.int .i64 w), (.int .i64 h), (.slice a5 (List.length v2) n5)] rfl rfl rfl rfl rfl rfl rfl rfl rfl rfl ?_)
  refine at_end ?_
  refine at_to [(0, (.pointer (some ⟨b_p0, 0, none⟩))), (6, (.pointer (some ⟨b2, 0, none⟩))), (9, v4), (10, (.pointer (some ⟨b6, 0, none⟩)))] [0, 0, 1, 1, 1, 1] [F, [(b2, Obj.cells #[(.int .i64 0), (.int .i64 0), (.slice none 0 0)] 41 (0, 0))], H4, [(b_p0, Obj.cells #[(.slice a_p0_b (List.length p0.b) n_p0_b), (.int .i64 v1.2.2.f_at)] 100 (0, 0))], H5, [(b6, Obj.cells #[(.int .i64 w), (.int .i64 h), (.slice a5 (List.length v2) n5)] 41 (0, 0))]] ⟨rfl, rfl, rfl, rfl, trivial⟩ rfl ?_
  refine at_then ?_
  obtain ⟨z4, Z3, H⟩ := bind_e H
  refine at_seq_mid (σ := Er × Value × Hp) (fun ⟨x3, v7_, H7⟩ => x3 = z4 ∧ ErO 142 el x3 v7_ H7) (fun ⟨x3, v7_, H7⟩ => [(0, (.pointer (some ⟨b_p0, 0, none⟩))), (6, (.pointer (some ⟨b2, 0, none⟩))), (9, v7_), (10, (.pointer (some ⟨b6, 0, none⟩)))]) (fun ⟨x3, v7_, H7⟩ => [F, [(b_p0, Obj.cells #[(.slice a_p0_b (List.length p0.b) n_p0_b), (.int .i64 v1.2.2.f_at)] 100 (0, 0))], [(b2, Obj.cells #[(.int .i64 0), (.int .i64 0), (.slice none 0 0)] 41 (0, 0))], H7, [(b6, Obj.cells #[(.int .i64 w), (.int .i64 h), (.slice a5 (List.length v2) n5)] 41 (0, 0))], H5]) ?_ ?_
  · refine at_seq ?_
    refine at_region [0, 1] rfl ?_
    refine at_s T rfl ?_
    refine at_v rfl (g_ernil T rfl rfl rfl (err_of s4 (j := 2) rfl)) ?_
    refine at_end ?_
    refine at_sub [(0, (.pointer (some ⟨b_p0, 0, none⟩))), (6, (.pointer (some ⟨b2, 0, none⟩))), (9, v4), (10, (.pointer (some ⟨b6, 0, none⟩))), (28, (.bool (Er.isNil v1.2.1)))] ⟨rfl, rfl, rfl, rfl, rfl, trivial⟩ ?_
    refine at_then ?_
    refine at_cond rfl (fun c4 => ?_) (fun c4 => ?_)
    · replace Z3 := if_t c4 Z3
      refine at_seq ?_
      refine at_region [0, 1, 2, 3, 4, 5, 6] rfl ?_
      refine at_v rfl (g_loadA T (cs := [(.int .i64 w), (.int .i64 h), (.slice a5 (List.length v2) n5)]) rfl rfl rfl rfl rfl rfl (in_varA (j := 5) rfl rfl)) ?_
      obtain ⟨v5, V5, Z3⟩ := bind_e Z3
      refine at_cons (at_cR (pack_Put.R v5) [] [] rfl rfl rfl rfl has39 rfl rfl (pack_Put.c (api_Map.mk w h v2) v5 _ V5 (own_of s5 (j := 4) rfl) s5.cap_le) ?_)
      rintro _ _ ⟨a8, n8, H8, s8, rfl, rfl⟩
      iterate 5 refine at_s T rfl ?_
      refine at_end ?_
      refine at_sub [(0, (.pointer (some ⟨b_p0, 0, none⟩))), (6, (.pointer (some ⟨b2, 0, none⟩))), (9, v4), (10, (.pointer (some ⟨b6, 0, none⟩))), (11, (.slice a8 (List.length v5.1) n8))] ⟨rfl, rfl, rfl, rfl, rfl, trivial⟩ ?_
      refine at_then ?_
      refine at_seq ?_
      refine at_region_q mix (by kernel_rfl) ?_
      iterate 4 refine atq_s T rfl ?_
      refine atq_v rfl rfl rfl (g_load T rfl rfl rfl rfl (in_var (j := 3) rfl rfl)) ?_
      iterate 3 refine atq_s T rfl ?_
      refine atq_v rfl rfl rfl (g_load T rfl rfl rfl rfl (in_var (j := 3) rfl rfl)) ?_
      obtain ⟨c6, Z3⟩ := chk_e Z3
      refine atq_v rfl rfl rfl (g_sub T rfl rfl rfl rfl rfl rfl c6 c_p0_b) ?_
      obtain ⟨v6, V7, Z3⟩ := bind_e Z3
      refine atq_c rfl rfl rfl rfl rfl rfl has41 rfl (bytes_Equal.c v5.1 (sub' p0.b 0 v1.2.2.f_at) v6 _ V7 (own_of s8 (j := 6) rfl) s8.cap_le (sub_r (ro_of h_p0_b (j := 0) rfl) c6 c_p0_b) (sub_cap c6 c_p0_b)) ?_
      refine atq_s T rfl ?_
      refine atq_end ?_
      refine at_to [(0, (.pointer (some ⟨b_p0, 0, none⟩))), (6, (.pointer (some ⟨b2, 0, none⟩))), (9, v4), (10, (.pointer (some ⟨b6, 0, none⟩))), (45, (.bool (!v6)))] [0, 0, 0, 0, 0, 0] [F, [(b2, Obj.cells #[(.int .i64 0), (.int .i64 0), (.slice none 0 0)] 41 (0, 0))], H4, [(b_p0, Obj.cells #[(.slice a_p0_b (List.length p0.b) n_p0_b), (.int .i64 v1.2.2.f_at)] 100 (0, 0))], H5, [(b6, Obj.cells #[(.int .i64 w), (.int .i64 h), (.slice a5 (List.length v2) n5)] 41 (0, 0))]] ⟨rfl, rfl, rfl, rfl, rfl, trivial⟩ rfl ?_
      refine at_then ?_
      refine at_cond rfl (fun c8 => ?_) (fun c8 => ?_)
      · replace Z3 := if_t c8 Z3
        refine at_region [0, 1] rfl ?_
        refine at_v rfl (g_load T rfl rfl rfl rfl (in_glb (j := 0) rfl hG (g := 1) (by decide))) ?_
        refine at_s T rfl ?_
        refine at_end ?_
        refine at_to [(0, (.pointer (some ⟨b_p0, 0, none⟩))), (6, (.pointer (some ⟨b2, 0, none⟩))), (9, (.iface 142 (.pointer (some (el 1))))), (10, (.pointer (some ⟨b6, 0, none⟩)))] [0, 0, 1, 1, 1] [F, [(b2, Obj.cells #[(.int .i64 0), (.int .i64 0), (.slice none 0 0)] 41 (0, 0))], [(b_p0, Obj.cells #[(.slice a_p0_b (List.length p0.b) n_p0_b), (.int .i64 v1.2.2.f_at)] 100 (0, 0))], H5, [(b6, Obj.cells #[(.int .i64 w), (.int .i64 h), (.slice a5 (List.length v2) n5)] 41 (0, 0))]] ⟨rfl, rfl, rfl, rfl, trivial⟩ rfl ?_
        refine at_then ?_
        obtain rfl := Option.some.inj Z3
        refine at_addnil ?_
        exact at_mid ((Er.glob 1), (.iface 142 (.pointer (some (el 1)))), []) [0, 1, 0, 2, 1, 0] ⟨rfl, ero_glob⟩ ⟨rfl, rfl, rfl, rfl, trivial⟩ rfl
      · replace Z3 := if_f (bf c8) Z3
        refine at_skip ?_
        refine at_then ?_
        obtain rfl := Option.some.inj Z3
        exact at_mid (v1.2.1, v4, H4) [0, 2, 0, 0, 1, 0] ⟨rfl, s4⟩ ⟨rfl, rfl, rfl, rfl, trivial⟩ rfl
    · replace Z3 := if_f (bf c4) Z3
      refine at_skip ?_
      refine at_then ?_
      obtain rfl := Option.some.inj Z3
      exact at_mid (v1.2.1, v4, H4) [0, 2, 0, 0, 1, 0] ⟨rfl, s4⟩ ⟨rfl, rfl, rfl, rfl, trivial⟩ rfl
  · rintro ⟨x3, v7_, H7⟩ ⟨rfl, s7⟩
    refine at_seq ?_
    refine at_seq ?_
    refine at_region [0, 1] rfl ?_
    refine at_s T rfl ?_
    refine at_v rfl (g_ernil T rfl rfl rfl (err_of s7 (j := 3) rfl)) ?_
    refine at_end ?_
    refine at_sub [(0, (.pointer (some ⟨b_p0, 0, none⟩))), (6, (.pointer (some ⟨b2, 0, none⟩))), (9, v7_), (10, (.pointer (some ⟨b6, 0, none⟩))), (48, (.bool (Er.isNil x3)))] ⟨rfl, rfl, rfl, rfl, rfl, trivial⟩ ?_
    refine at_then ?_
    refine at_cond rfl (fun c9 => ?_) (fun c9 => ?_)
    · replace H := if_t c9 H
      refine at_seq ?_
      refine at_region [0, 1, 2] rfl ?_
      refine at_v rfl (g_loadA T (cs := [(.int .i64 w), (.int .i64 h), (.slice a5 (List.length v2) n5)]) rfl rfl rfl rfl rfl rfl (in_varA (j := 4) rfl rfl)) ?_
      refine at_cons (at_st T 2 [(.int .i64 w), (.int .i64 h), (.slice a5 (List.length v2) n5)] rfl rfl rfl rfl rfl rfl rfl rfl rfl rfl ?_)
      refine at_s T rfl ?_
      refine at_end ?_
      refine at_to [(6, (.pointer (some ⟨b2, 0, none⟩))), (7, .nilIface)] [0, 0, 0, 2] [F, [(b_p0, Obj.cells #[(.slice a_p0_b (List.length p0.b) n_p0_b), (.int .i64 v1.2.2.f_at)] 100 (0, 0))], [(b2, Obj.cells #[(.int .i64 w), (.int .i64 h), (.slice a5 (List.length v2) n5)] 41 (0, 0))], H5] ⟨rfl, rfl, trivial⟩ rfl ?_
      refine at_then ?_
      refine at_ret ?_
      refine at_rt ?_
      obtain rfl := Option.some.inj H
      refine at_addnil ?_
      exact at_post (T := T) rfl (.aggv (j := 2) [(.int .i64 w), (.int .i64 h), (.slice a5 (List.length v2) n5)] rfl rfl rfl rfl rfl rfl rfl (.tmp rfl .nil)) (fun w o => ⟨⟨(_, _), ⟨a5, n5, H5, .nilIface, [], s5, ero_nil, rfl, rfl⟩⟩, rfl, own_to [3, 3, 1, 0] rfl o⟩)
    · replace H := if_f (bf c9) H
      refine at_skip ?_
      refine at_then ?_
      refine at_seq ?_
      refine at_region [0, 1, 2, 3, 4, 5, 6, 7] rfl ?_
      iterate 3 refine at_s T rfl ?_
      refine at_v rfl (g_load T rfl rfl rfl rfl (in_var (j := 1) rfl rfl)) ?_
      refine at_s T rfl ?_
      refine at_v rfl (g_ebuild (vs := [(0, (.int .i64 v1.2.2.f_at)), (1, (.int .i64 3)), (2, v7_)]) T [(0, [(.int .i64 v1.2.2.f_at)]), (1, [(.int .i64 3)]), (2, [v7_])] rfl rfl rfl rfl rfl (by simp only [List.map, ero_cells s7]; rfl) rfl) ?_
      refine at_cons (at_bx T [(.int .i64 v1.2.2.f_at), (.int .i64 3), v7_] rfl rfl rfl rfl (fun b10 => ?_))
      refine at_s T rfl ?_
      refine at_end ?_
      refine at_to [(6, (.pointer (some ⟨b2, 0, none⟩))), (9, v7_), (13, (.pointer (some ⟨b10, 0, none⟩)))] [0, 0, 0, 0, 2] [F, [(b_p0, Obj.cells #[(.slice a_p0_b (List.length p0.b) n_p0_b), (.int .i64 v1.2.2.f_at)] 100 (0, 0))], [(b2, Obj.cells #[(.int .i64 0), (.int .i64 0), (.slice none 0 0)] 41 (0, 0))], H7, [(b10, Obj.cells #[(.int .i64 v1.2.2.f_at), (.int .i64 3), v7_] 106 (0, 0))]] ⟨rfl, rfl, rfl, trivial⟩ rfl ?_
      refine at_then ?_
      refine at_seq ?_
      refine at_seq ?_
      refine at_region [0, 1, 2] rfl ?_
      refine at_s T rfl ?_
      refine at_v rfl (g_load T rfl rfl rfl rfl (in_glb (j := 0) rfl hG (g := 2) (by decide))) ?_
      obtain ⟨v7, V10, H⟩ := bind_e H
      refine at_cons (at_c (B := fun _ => []) [] rfl rfl rfl rfl has70 rfl rfl (errors_Is.c x3 (Er.glob 2) v7 _ V10 (glb_of hG (j := 0) rfl) (err_of s7 (j := 3) rfl) er0_glob) (fun _ => ?_))
      refine at_end ?_
      refine at_sub [(6, (.pointer (some ⟨b2, 0, none⟩))), (13, (.pointer (some ⟨b10, 0, none⟩))), (59, (.bool v7))] ⟨rfl, rfl, rfl, trivial⟩ ?_
      refine at_then ?_
      refine at_cond rfl (fun c11 => ?_) (fun c11 => ?_)
      · replace H := if_t c11 H
        refine at_region [0, 1, 2, 3] rfl ?_
        iterate 3 refine at_s T rfl ?_
        refine at_cons (at_st T 4 [(.int .i64 v1.2.2.f_at), (.int .i64 2), v7_] rfl rfl rfl rfl rfl rfl rfl rfl rfl rfl ?_)
        refine at_end ?_
        refine at_sub [(6, (.pointer (some ⟨b2, 0, none⟩))), (13, (.pointer (some ⟨b10, 0, none⟩)))] ⟨rfl, rfl, trivial⟩ ?_
        refine at_then ?_
        refine at_seq ?_
        refine at_region [0, 1, 2, 3, 4] rfl ?_
        iterate 2 refine at_s T rfl ?_
        refine at_gather [4, 3] rfl ?_
        refine at_v rfl (g_mkif T rfl rfl rfl rfl) ?_
        refine at_cons (at_st T 2 [(.int .i64 0), (.int .i64 0), (.slice none 0 0)] rfl rfl rfl rfl rfl rfl rfl rfl rfl rfl ?_)
        refine at_s T rfl ?_
        refine at_end ?_
        refine at_sub [(6, (.pointer (some ⟨b2, 0, none⟩))), (7, (.iface 103 (.pointer (some ⟨b10, 0, none⟩))))] ⟨rfl, rfl, trivial⟩ ?_
        refine at_then ?_
        refine at_ret ?_
        obtain rfl := Option.some.inj H
        refine at_addnil ?_
        exact at_post (T := T) rfl (.aggv (j := 2) [(.int .i64 0), (.int .i64 0), (.slice none 0 0)] rfl rfl rfl rfl rfl rfl rfl (.tmp rfl .nil)) (fun w o => ⟨⟨(_, _), ⟨none, 0, [], (.iface 103 (.pointer (some ⟨b10, 0, none⟩))), (List.flatten [[(b10, Obj.cells #[(.int .i64 v1.2.2.f_at), (.int .i64 2), v7_] 106 (0, 0))], H7]), SliceO.nil, (ero_wrap s7), rfl, rfl⟩⟩, rfl, own_to [4, 3, 1, 0] rfl o⟩)
      · replace H := if_f (bf c11) H
        refine at_skip ?_
        refine at_then ?_
        refine at_seq ?_
        refine at_region [0, 1, 2, 3, 4] rfl ?_
        iterate 2 refine at_s T rfl ?_
        refine at_gather [4, 3] rfl ?_
        refine at_v rfl (g_mkif T rfl rfl rfl rfl) ?_
        refine at_cons (at_st T 2 [(.int .i64 0), (.int .i64 0), (.slice none 0 0)] rfl rfl rfl rfl rfl rfl rfl rfl rfl rfl ?_)
        refine at_s T rfl ?_
        refine at_end ?_
        refine at_sub [(6, (.pointer (some ⟨b2, 0, none⟩))), (7, (.iface 103 (.pointer (some ⟨b10, 0, none⟩))))] ⟨rfl, rfl, trivial⟩ ?_
        refine at_then ?_
        refine at_ret ?_
        obtain rfl := Option.some.inj H
        refine at_addnil ?_
        exact at_post (T := T) rfl (.aggv (j := 2) [(.int .i64 0), (.int .i64 0), (.slice none 0 0)] rfl rfl rfl rfl rfl rfl rfl (.tmp rfl .nil)) (fun w o => ⟨⟨(_, _), ⟨none, 0, [], (.iface 103 (.pointer (some ⟨b10, 0, none⟩))), (List.flatten [[(b10, Obj.cells #[(.int .i64 v1.2.2.f_at), (.int .i64 3), v7_] 106 (0, 0))], H7]), SliceO.nil, (ero_wrap s7), rfl, rfl⟩⟩, rfl, own_to [4, 3, 1, 0] rfl o⟩)

/-! ### herdsman/pack.Get: function 51 -/
def pack_Get.f (b : (List Int)) (w : Int) (h : Int) : Option (api_Map × Int × Int) := if ((((decide (w < 1)) || (decide (w > 16))) || (decide (h < 1))) || (decide (h > 16))) = true then (some ((api_Map.mk 0 0 []), 0, 1)) else ((pack_reader_tile.f (pack_reader.mk b 0) w h).bind fun v1 => (Er.asP 103 v1.2.1).bind fun v2 => optm v2 (some (v1.1, v1.2.2.f_at, 0)) (fun yv2 => some ((api_Map.mk 0 0 []), 0, yv2.2.1)))
def pack_Get.R (el : Nat → Addr) (r : (api_Map × Int × Int)) (u : Value) (G : List Hp) : Prop := ∃ (a0 : Option Addr) (n0 : Nat) (H0 : Hp), SliceO (Fl.int .u8) 5 r.1.C a0 n0 H0 ∧ u = (.tuple #[(.agg #[(.int .i64 r.1.W), (.int .i64 r.1.H), (.slice a0 (List.length r.1.C) n0)]), (.int .i64 r.2.1), (.int .i64 r.2.2)]) ∧ G = [H0]
set_option maxHeartbeats 4000000 in
theorem pack_Get.c {el : Nat → Addr} {a_b : Option Addr} {n_b : Nat} (b : (List Int)) (w : Int) (h : Int) (r : (api_Map × Int × Int)) (F : Hp) (H : pack_Get.f b w h = some r) (hG : Glb 142 gs_ lits_ el F) (h_b : SliceR (Fl.int .u8) b a_b F) (c_b : List.length b ≤ n_b) :
    CallsL Tryd.prog 51 [(.slice a_b (List.length b) n_b), (.int .i64 w), (.int .i64 h)] [F] (fun qp : { qp : Value × List Hp // pack_Get.R el r qp.1 qp.2 } => qp.1.1) (fun qp => (qp.1.2 ++ []) ++ [F]) := by
  unfold pack_Get.f at H
  refine calls_atL [(0, (.slice a_b (List.length b) n_b)), (1, (.int .i64 w)), (2, (.int .i64 h))] Tryd.func51 rfl rfl ⟨rfl, rfl, rfl, trivial⟩ (fun W => ?_)
  refine at_seq ?_
  refine at_region [0, 1, 2] rfl ?_
  refine at_cons (at_al T [(.int .i64 0), (.int .i64 0), (.slice none 0 0)] rfl rfl rfl rfl (fun b1 => ?_))
  iterate 2 refine at_s T rfl ?_
  refine at_end ?_
  refine at_sub [(0, (.slice a_b (List.length b) n_b)), (1, (.int .i64 w)), (2, (.int .i64 h)), (6, (.pointer (some ⟨b1, 0, none⟩)))] ⟨rfl, rfl, rfl, rfl, trivial⟩ ?_
  refine at_then ?_
  refine at_seq ?_
  refine at_seq ?_
  refine at_region [0, 1, 2, 3, 4, 5, 6, 7, 8, 9, 10, 11, 12, 13] rfl ?_
  iterate 3 refine at_s T rfl ?_
  refine at_grp T [3, 4, 5] (s := 14) (c := (decide (w < 1))) [(0, (.slice a_b (List.length b) n_b)), (1, (.int .i64 w)), (2, (.int .i64 h)), (6, (.pointer (some ⟨b1, 0, none⟩))), (17, (.bool ((decide (w < 1)) || (decide (w > 16)))))] rfl rfl rfl (fun c1 => ⟨rfl, rfl, rfl, rfl, (by rw [c1]; rfl), trivial⟩) (fun c1 => ⟨rfl, rfl, rfl, rfl, (by rw [c1]; rfl), trivial⟩) ?_
  refine at_s T rfl ?_
  refine at_grp T [7, 8, 9] (s := 18) (c := ((decide (w < 1)) || (decide (w > 16)))) [(0, (.slice a_b (List.length b) n_b)), (1, (.int .i64 w)), (2, (.int .i64 h)), (6, (.pointer (some ⟨b1, 0, none⟩))), (21, (.bool (((decide (w < 1)) || (decide (w > 16))) || (decide (h < 1)))))] rfl rfl rfl (fun c2 => ⟨rfl, rfl, rfl, rfl, (by rw [c2]; rfl), trivial⟩) (fun c2 => ⟨rfl, rfl, rfl, rfl, (by rw [c2]; rfl), trivial⟩) ?_
  refine at_s T rfl ?_
  refine at_grp T [11, 12, 13] (s := 22) (c := (((decide (w < 1)) || (decide (w > 16))) || (decide (h < 1)))) [(0, (.slice a_b (List.length b) n_b)), (1, (.int .i64 w)), (2, (.int .i64 h)), (6, (.pointer (some ⟨b1, 0, none⟩))), (25, (.bool ((((decide (w < 1)) || (decide (w > 16))) || (decide (h < 1))) || (decide (h > 16)))))] rfl rfl rfl (fun c3 => ⟨rfl, rfl, rfl, rfl, (by rw [c3]; rfl), trivial⟩) (fun c3 => ⟨rfl, rfl, rfl, rfl, (by rw [c3]; rfl), trivial⟩) ?_
  refine at_end ?_
  refine at_sub [(0, (.slice a_b (List.length b) n_b)), (1, (.int .i64 w)), (2, (.int .i64 h)), (6, (.pointer (some ⟨b1, 0, none⟩))), (25, (.bool ((((decide (w < 1)) || (decide (w > 16))) || (decide (h < 1))) || (decide (h > 16)))))] ⟨rfl, rfl, rfl, rfl, rfl, trivial⟩ ?_
  refine at_then ?_
  refine at_cond rfl (fun c4 => ?_) (fun c4 => ?_)
  · replace H := if_t c4 H
    refine at_seq ?_
    refine at_region [0, 1, 2, 3] rfl ?_
    refine at_s T rfl ?_
    refine at_cons (at_st T 1 [(.int .i64 0), (.int .i64 0), (.slice none 0 0)] rfl rfl rfl rfl rfl rfl rfl rfl rfl rfl ?_)
    iterate 2 refine at_s T rfl ?_
    refine at_end ?_
    refine at_sub [(6, (.pointer (some ⟨b1, 0, none⟩))), (7, (.int .i64 0)), (8, (.int .i64 1))] ⟨rfl, rfl, rfl, trivial⟩ ?_
    refine at_then ?_
    refine at_ret ?_
    refine at_rt ?_
    obtain rfl := Option.some.inj H
    refine at_addnil ?_
    exact at_post (T := T) rfl (.aggv (j := 1) [(.int .i64 0), (.int .i64 0), (.slice none 0 0)] rfl rfl rfl rfl rfl rfl rfl (.tmp rfl (.tmp rfl .nil))) (fun w o => ⟨⟨(_, _), ⟨none, 0, [], SliceO.nil, rfl, rfl⟩⟩, rfl, own_to [2, 0] rfl o⟩)
  · replace H := if_f (bf c4) H
    refine at_skip ?_
    refine at_then ?_
    refine at_seq ?_
    refine at_region [0, 1, 2, 3] rfl ?_
    iterate 2 refine at_s T rfl ?_
    refine at_cons (at_bx T [(.slice a_b (List.length b) n_b), (.int .i64 0)] rfl rfl rfl rfl (fun b3 => ?_))
    refine at_s T rfl ?_
    refine at_end ?_
    refine at_sub [(1, (.int .i64 w)), (2, (.int .i64 h)), (6, (.pointer (some ⟨b1, 0, none⟩))), (9, (.pointer (some ⟨b3, 0, none⟩)))] ⟨rfl, rfl, rfl, rfl, trivial⟩ ?_
    refine at_then ?_
    refine at_seq ?_
    refine at_region [0, 1, 2, 3, 4, 5, 6, 7, 8] rfl ?_
    iterate 3 refine at_s T rfl ?_
    obtain ⟨v1, V5, H⟩ := bind_e H
    refine at_cons (at_cR (As := [[(b3, Obj.cells #[(.slice a_b (List.length b) n_b), (.int .i64 0)] 100 (0, 0))]]) (R := [F, [(b1, Obj.cells #[(.int .i64 0), (.int .i64 0), (.slice none 0 0)] 41 (0, 0))]]) (pack_reader_tile.R el b3 (.slice a_b (List.length b) n_b) v1) [] [2] rfl rfl rfl rfl has62 rfl rfl (pack_reader_tile.c (pack_reader.mk b 0) w h v1 _ V5 (glb_of hG (j := 0) rfl) (ro_of h_b (j := 0) rfl) c_b) ?_)
    rintro _ _ ⟨a4, n4, H4, v5, H5, s4, s5, rfl, rfl⟩
    iterate 3 refine at_s T rfl ?_
    refine at_cons (at_st T 1 [(.int .i64 v1.1.W), (.int .i64 v1.1.H), (.slice a4 (List.length v1.1.C) n4)] rfl rfl rfl rfl rfl rfl rfl rfl rfl rfl ?_)
    refine at_s T rfl ?_
    refine at_end ?_
    refine at_sub [(6, (.pointer (some ⟨b1, 0, none⟩))), (9, (.pointer (some ⟨b3, 0, none⟩))), (10, v5)] ⟨rfl, rfl, rfl, trivial⟩ ?_
    refine at_then ?_
    refine at_seq ?_
    refine at_seq ?_
    refine at_region [0, 1] rfl ?_
    refine at_cons (at_al T [(.pointer none)] rfl rfl rfl rfl (fun b6 => ?_))
    refine at_cons (at_st T 5 [(.pointer none)] rfl rfl rfl rfl rfl rfl rfl rfl rfl rfl ?_)
    refine at_end ?_
    refine at_sub [(6, (.pointer (some ⟨b1, 0, none⟩))), (9, (.pointer (some ⟨b3, 0, none⟩))), (10, v5), (11, (.pointer (some ⟨b6, 0, none⟩)))] ⟨rfl, rfl, rfl, rfl, trivial⟩ ?_
    refine at_then ?_
    refine at_seq ?_
    refine at_region [0, 1, 2] rfl ?_
    refine at_s T rfl ?_
    refine at_v rfl (g_mkif T rfl rfl rfl rfl) ?_
    obtain ⟨v2, V6, H⟩ := bind_e H
    rcases v2 with _ | yv2
    · replace H := optm_n rfl H
      obtain ⟨evv2, eHv2⟩ := asP_none V6 s5
      subst evv2; subst eHv2
      refine at_cons (at_c (As := [[(b6, Obj.cells #[(.pointer none)] 103 (0, 0))]]) (R := [F, [(b1, Obj.cells #[(.int .i64 v1.1.W), (.int .i64 v1.1.H), (.slice a4 (List.length v1.1.C) n4)] 41 (0, 0))], H4, [], [(b3, Obj.cells #[(.slice a_b (List.length b) n_b), (.int .i64 v1.2.2.f_at)] 100 (0, 0))]]) (B := fun _ => [[(b6, Obj.cells #[(.pointer none)] 103 (0, 0))]]) [5] rfl rfl rfl rfl has33 rfl rfl (errors_AsP103.n _ (glb_of hG (j := 0) rfl)) (fun _ => ?_))
      refine at_end ?_
      refine at_to [(6, (.pointer (some ⟨b1, 0, none⟩))), (9, (.pointer (some ⟨b3, 0, none⟩))), (11, (.pointer (some ⟨b6, 0, none⟩))), (39, (.bool false))] [0, 0, 0, 1, 1] [F, [(b1, Obj.cells #[(.int .i64 v1.1.W), (.int .i64 v1.1.H), (.slice a4 (List.length v1.1.C) n4)] 41 (0, 0))], H4, [(b3, Obj.cells #[(.slice a_b (List.length b) n_b), (.int .i64 v1.2.2.f_at)] 100 (0, 0))], [(b6, Obj.cells #[(.pointer none)] 103 (0, 0))]] ⟨rfl, rfl, rfl, rfl, trivial⟩ rfl ?_
      refine at_then ?_
      refine at_cond_f rfl ?_
      refine at_skip ?_
      refine at_then ?_
      refine at_seq ?_
      refine at_region_m [[], [], [1], [1, 2], [1, 2, 3], [0], [0, 1, 2, 3, 4, 5], [0, 1, 2, 3, 4, 5, 6]] [] [F, [(b1, Obj.cells #[(.int .i64 v1.1.W), (.int .i64 v1.1.H), (.slice a4 (List.length v1.1.C) n4)] 41 (0, 0))], H4, [(b3, Obj.cells #[(.slice a_b (List.length b) n_b), (.int .i64 v1.2.2.f_at)] 100 (0, 0))], [(b6, Obj.cells #[(.pointer none)] 103 (0, 0))]] mix (by kernel_rfl) (by repeat first | exact pf_body | refine pf_then ?_ | refine pf_block ?_) (fun hg pf => ?_)
      refine atm_v 0 hg pf (by kernel_rfl) (still_o [0, 0, 0, 0, 0] rfl) rfl rfl (g_loadA T (cs := [(.int .i64 v1.1.W), (.int .i64 v1.1.H), (.slice a4 (List.length v1.1.C) n4)]) rfl rfl rfl rfl rfl rfl (in_varA (j := 1) rfl rfl)) ?_
      refine atm_s T 1 hg pf (by kernel_rfl) (still_o [0, 0, 0, 0, 0] rfl) rfl ?_
      refine atm_s T 2 hg pf (by kernel_rfl) (still_o [0, 0, 0, 0, 0] rfl) rfl ?_
      refine atm_s T 3 hg pf (by kernel_rfl) (still_o [0, 0, 0, 0, 0] rfl) rfl ?_
      refine atm_v 4 hg pf (by kernel_rfl) (still_o [0, 0, 0, 0, 0] rfl) rfl rfl (g_load T rfl rfl rfl rfl (in_var (j := 3) rfl rfl)) ?_
      refine atm_one 5 (by kernel_rfl) ?_
      refine at_st T 1 [(.int .i64 v1.1.W), (.int .i64 v1.1.H), (.slice a4 (List.length v1.1.C) n4)] rfl rfl rfl rfl rfl rfl rfl rfl rfl rfl ?_
      refine atm_next (still_o [0, 0, 0, 0, 0] rfl) ?_
      refine atm_s T 6 hg pf (by kernel_rfl) (still_o [0, 0, 0, 0, 0] rfl) rfl ?_
      refine atm_s T 7 hg pf (by kernel_rfl) (still_o [0, 0, 0, 0, 0] rfl) rfl ?_
      refine atm_end (by kernel_rfl) ?_
      refine at_to [(6, (.pointer (some ⟨b1, 0, none⟩))), (7, (.int .i64 v1.2.2.f_at)), (8, (.int .i64 0))] [0, 0, 0] [F, [(b1, Obj.cells #[(.int .i64 v1.1.W), (.int .i64 v1.1.H), (.slice a4 (List.length v1.1.C) n4)] 41 (0, 0))], H4] ⟨rfl, rfl, rfl, trivial⟩ rfl ?_
      refine at_then ?_
      refine at_ret ?_
      obtain rfl := Option.some.inj H
      exact at_post (T := T) rfl (.aggv (j := 1) [(.int .i64 v1.1.W), (.int .i64 v1.1.H), (.slice a4 (List.length v1.1.C) n4)] rfl rfl rfl rfl rfl rfl rfl (.tmp rfl (.tmp rfl .nil))) (fun w o => ⟨⟨(_, _), ⟨a4, n4, H4, s4, rfl, rfl⟩⟩, rfl, own_to [2, 0] rfl o⟩)
    · replace H := optm_s rfl H
      obtain ⟨b7, v8_, T7_, H8, evv2, eHv2, s8⟩ := asP_some V6 s5
      subst evv2; subst eHv2
      refine at_split (j := 3) rfl ?_
      refine at_cons (at_c (As := [[(b6, Obj.cells #[(.pointer none)] 103 (0, 0))]]) (R := [F, [(b1, Obj.cells #[(.int .i64 v1.1.W), (.int .i64 v1.1.H), (.slice a4 (List.length v1.1.C) n4)] 41 (0, 0))], H4, [(b7, Obj.cells #[(.int .i64 yv2.1), (.int .i64 yv2.2.1), v8_] T7_ (0, 0))], [(b3, Obj.cells #[(.slice a_b (List.length b) n_b), (.int .i64 v1.2.2.f_at)] 100 (0, 0))], H8]) (B := fun _ => [[(b6, Obj.cells #[(.pointer (some ⟨b7, 0, none⟩))] 103 (0, 0))]]) [5] rfl rfl rfl rfl has33 rfl rfl (errors_AsP103.s _ _ (glb_of hG (j := 0) rfl)) (fun _ => ?_))
      refine at_end ?_
      refine at_sub [(6, (.pointer (some ⟨b1, 0, none⟩))), (9, (.pointer (some ⟨b3, 0, none⟩))), (11, (.pointer (some ⟨b6, 0, none⟩))), (39, (.bool true))] ⟨rfl, rfl, rfl, rfl, trivial⟩ ?_
      refine at_then ?_
      refine at_cond_t rfl ?_
      refine at_seq ?_
      refine at_region_m [[], [], [1], [1, 2], [1, 2, 3], [0], [0, 5], [0, 1, 2, 3, 4, 5, 6]] [] [F, H4, [(b7, Obj.cells #[(.int .i64 yv2.1), (.int .i64 yv2.2.1), v8_] T7_ (0, 0))], [(b3, Obj.cells #[(.slice a_b (List.length b) n_b), (.int .i64 v1.2.2.f_at)] 100 (0, 0))], H8, [(b6, Obj.cells #[(.pointer (some ⟨b7, 0, none⟩))] 103 (0, 0))]] mix (by kernel_rfl) (by repeat first | exact pf_body | refine pf_then ?_ | refine pf_block ?_) (fun hg pf => ?_)
      refine atm_s T 0 hg pf (by kernel_rfl) (still_o [0, 1, 1, 1, 1, 1] rfl) rfl ?_
      refine atm_v 1 hg pf (by kernel_rfl) (still_o [0, 1, 1, 1, 1, 1] rfl) rfl rfl (g_load T rfl rfl rfl rfl (in_var (j := 5) rfl rfl)) ?_
      refine atm_s T 2 hg pf (by kernel_rfl) (still_o [0, 1, 1, 1, 1, 1] rfl) rfl ?_
      refine atm_s T 3 hg pf (by kernel_rfl) (still_o [0, 1, 1, 1, 1, 1] rfl) rfl ?_
      refine atm_v 4 hg pf (by kernel_rfl) (still_o [0, 1, 1, 1, 1, 1] rfl) rfl rfl (g_load T rfl rfl rfl rfl (in_var (j := 2) rfl rfl)) ?_
      refine atm_one 5 (by kernel_rfl) ?_
      refine at_st T 1 [(.int .i64 0), (.int .i64 0), (.slice none 0 0)] rfl rfl rfl rfl rfl rfl rfl rfl rfl rfl ?_
      refine atm_next (still_o [0, 1, 1, 1, 1, 1] rfl) ?_
      refine atm_s T 6 hg pf (by kernel_rfl) (still_o [0, 1, 1, 1, 1, 1] rfl) rfl ?_
      refine atm_s T 7 hg pf (by kernel_rfl) (still_o [0, 1, 1, 1, 1, 1] rfl) rfl ?_
      refine atm_end (by kernel_rfl) ?_
      refine at_to [(6, (.pointer (some ⟨b1, 0, none⟩))), (7, (.int .i64 0)), (8, (.int .i64 yv2.2.1))] [0, 0] [F, [(b1, Obj.cells #[(.int .i64 0), (.int .i64 0), (.slice none 0 0)] 41 (0, 0))]] ⟨rfl, rfl, rfl, trivial⟩ rfl ?_
      refine at_then ?_
      refine at_ret ?_
      refine at_rt ?_
      obtain rfl := Option.some.inj H
      refine at_addnil ?_
      exact at_post (T := T) rfl (.aggv (j := 1) [(.int .i64 0), (.int .i64 0), (.slice none 0 0)] rfl rfl rfl rfl rfl rfl rfl (.tmp rfl (.tmp rfl .nil))) (fun w o => ⟨⟨(_, _), ⟨none, 0, [], SliceO.nil, rfl, rfl⟩⟩, rfl, own_to [2, 0] rfl o⟩)
end

end Go.Proofs.YtnkdnecilkafhaaDoor
