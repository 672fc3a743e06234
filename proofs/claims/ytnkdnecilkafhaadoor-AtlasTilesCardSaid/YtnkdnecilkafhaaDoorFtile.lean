import Derived.Test.YtnkdnecilkafhaaDoorT
import Derived.Test.YtnkdnecilkafhaaDoorFslices
namespace Go.Proofs.YtnkdnecilkafhaaDoor
open Go.Hx
set_option maxRecDepth 100000
set_option linter.unusedVariables false
noncomputable section
/-! ### herdsman/tile.sized: function 61 -/
def tile_sized.f (n : Int) : Option Bool := some ((decide (n ≥ 1)) && (decide (n ≤ 16)))
set_option maxHeartbeats 4000000 in
theorem tile_sized.c (n : Int) (r : Bool) (F : Hp) (H : tile_sized.f n = some r) :
    CallsL Tryd.prog 61 [(.int .i64 n)] [F] (fun _ : Unit => (.bool r)) (fun _ => [F]) := by
  unfold tile_sized.f at H
  refine calls_atL [(0, (.int .i64 n))] Tryd.func61 rfl rfl ⟨rfl, trivial⟩ (fun W => ?_)
  refine at_seq ?_
  refine at_region [0] rfl ?_
  refine at_s T rfl ?_
  refine at_end ?_
  refine at_sub [(0, (.int .i64 n))] ⟨rfl, trivial⟩ ?_
  refine at_then ?_
  refine at_seq ?_
  refine at_region [0, 1, 2, 3, 4, 5, 6] rfl ?_
  iterate 3 refine at_s T rfl ?_
  refine at_grp T [3, 4, 5] (s := 5) (c := (decide (n ≥ 1))) [(8, (.bool ((decide (n ≥ 1)) && (decide (n ≤ 16)))))] rfl rfl rfl (fun c1 => ⟨(by rw [c1]; rfl), trivial⟩) (fun c1 => ⟨(by rw [c1]; rfl), trivial⟩) ?_
  refine at_s T rfl ?_
  refine at_end ?_
  refine at_sub [(2, (.bool ((decide (n ≥ 1)) && (decide (n ≤ 16)))))] ⟨rfl, trivial⟩ ?_
  refine at_then ?_
  refine at_ret ?_
  obtain rfl := Option.some.inj H
  exact at_post (T := T) rfl (.tmp rfl .nil) (fun w o => ⟨(), rfl, own_to [0] rfl o⟩)

/-! ### herdsman/tile.May: function 48 -/
def tile_May.f (t : api_Map) : Option Bool := ((tile_sized.f t.W).bind fun v3 => if v3 = true then ((tile_sized.f t.H).bind fun v4 => if v4 = true then (if ((List.length t.C : Int) == (w64 (t.W * t.H))) = true then ((slices_Contains_byte_byte.f t.C 0).bind fun v5 => some (!v5)) else (some false)) else (some false)) else (some false)).bind fun x1 => some x1
set_option maxHeartbeats 4000000 in
theorem tile_May.c {a_t_C : Option Addr} {n_t_C : Nat} (t : api_Map) (r : Bool) (F : Hp) (H : tile_May.f t = some r) (h_t_C : SliceR (Fl.int .u8) t.C a_t_C F) (c_t_C : List.length t.C ≤ n_t_C) :
    CallsL Tryd.prog 48 [(.agg #[(.int .i64 t.W), (.int .i64 t.H), (.slice a_t_C (List.length t.C) n_t_C)])] [F] (fun _ : Unit => (.bool r)) (fun _ => [F]) := by
  unfold tile_May.f at H
  refine calls_atL [(0, (.agg #[(.int .i64 t.W), (.int .i64 t.H), (.slice a_t_C (List.length t.C) n_t_C)]))] Tryd.func48 rfl rfl ⟨rfl, trivial⟩ (fun W => ?_)
  refine at_seq ?_
  refine at_region [0, 1] rfl ?_
  refine at_cons (at_bx T [(.int .i64 t.W), (.int .i64 t.H), (.slice a_t_C (List.length t.C) n_t_C)] rfl rfl rfl rfl (fun b1 => ?_))
  refine at_s T rfl ?_
  refine at_end ?_
  refine at_sub [(1, (.pointer (some ⟨b1, 0, none⟩)))] ⟨rfl, trivial⟩ ?_
  refine at_then ?_
  obtain ⟨z2, Z1, H⟩ := bind_e H
  refine at_seq_mid (σ := Bool) (fun x1 => x1 = z2) (fun x1 => [(2, (.bool x1))]) (fun x1 => [F]) ?_ ?_
  · refine at_region [0, 1, 2, 3, 4, 5, 6, 7, 8, 9, 10, 11, 12, 13, 14, 15, 16, 17, 18, 19, 20, 21, 22, 23, 24, 25] rfl ?_
    refine at_s T rfl ?_
    refine at_v rfl (g_load T rfl rfl rfl rfl (in_var (j := 1) rfl rfl)) ?_
    obtain ⟨v3, V2, Z1⟩ := bind_e Z1
    refine at_cons (at_c (B := fun _ => []) [] rfl rfl rfl rfl has61 rfl rfl (tile_sized.c t.W v3 _ V2) (fun _ => ?_))
    refine at_s T rfl ?_
    refine at_case (s := 6) rfl (fun c3 => ?_) (fun c3 => ?_)
    · replace Z1 := if_t c3 Z1
      refine at_s T rfl ?_
      refine at_v rfl (g_load T rfl rfl rfl rfl (in_var (j := 1) rfl rfl)) ?_
      obtain ⟨v4, V4, Z1⟩ := bind_e Z1
      refine at_cons (at_c (B := fun _ => []) [] rfl rfl rfl rfl has61 rfl rfl (tile_sized.c t.H v4 _ V4) (fun _ => ?_))
      iterate 2 refine at_s T rfl ?_
      refine at_case (s := 11) rfl (fun c5 => ?_) (fun c5 => ?_)
      · replace Z1 := if_t c5 Z1
        refine at_s T rfl ?_
        refine at_v rfl (g_load T rfl rfl rfl rfl (in_var (j := 1) rfl rfl)) ?_
        iterate 2 refine at_s T rfl ?_
        refine at_v rfl (g_load T rfl rfl rfl rfl (in_var (j := 1) rfl rfl)) ?_
        refine at_s T rfl ?_
        refine at_v rfl (g_load T rfl rfl rfl rfl (in_var (j := 1) rfl rfl)) ?_
        iterate 4 refine at_s T rfl ?_
        refine at_case (s := 22) rfl (fun c6 => ?_) (fun c6 => ?_)
        · replace Z1 := if_t c6 Z1
          refine at_s T rfl ?_
          refine at_v rfl (g_load T rfl rfl rfl rfl (in_var (j := 1) rfl rfl)) ?_
          obtain ⟨v5, V7, Z1⟩ := bind_e Z1
          refine at_cons (at_c (B := fun _ => []) [] rfl rfl rfl rfl has45 rfl rfl (slices_Contains_byte_byte.c t.C 0 v5 _ V7 (ro_of h_t_C (j := 0) rfl) c_t_C) (fun _ => ?_))
          iterate 3 refine at_s T rfl ?_
          refine at_end ?_
          refine at_to [(2, (.bool (!v5)))] [0] [F] ⟨rfl, trivial⟩ rfl ?_
          refine at_then ?_
          obtain rfl := Option.some.inj Z1
          exact at_mid (!v5) [0] rfl ⟨rfl, trivial⟩ rfl
        · replace Z1 := if_f (bf c6) Z1
          iterate 6 refine at_s T rfl ?_
          refine at_end ?_
          refine at_to [(2, (.bool false))] [0] [F] ⟨rfl, trivial⟩ rfl ?_
          refine at_then ?_
          obtain rfl := Option.some.inj Z1
          exact at_mid false [0] rfl ⟨rfl, trivial⟩ rfl
      · replace Z1 := if_f (bf c5) Z1
        iterate 17 refine at_s T rfl ?_
        refine at_end ?_
        refine at_to [(2, (.bool false))] [0] [F] ⟨rfl, trivial⟩ rfl ?_
        refine at_then ?_
        obtain rfl := Option.some.inj Z1
        exact at_mid false [0] rfl ⟨rfl, trivial⟩ rfl
    · replace Z1 := if_f (bf c3) Z1
      iterate 22 refine at_s T rfl ?_
      refine at_end ?_
      refine at_to [(2, (.bool false))] [0] [F] ⟨rfl, trivial⟩ rfl ?_
      refine at_then ?_
      obtain rfl := Option.some.inj Z1
      exact at_mid false [0] rfl ⟨rfl, trivial⟩ rfl
  · rintro x1 rfl
    refine at_ret ?_
    obtain rfl := Option.some.inj H
    exact at_post (T := T) rfl (.tmp rfl .nil) (fun w o => ⟨(), rfl, own_to [0] rfl o⟩)
end

end Go.Proofs.YtnkdnecilkafhaaDoor
