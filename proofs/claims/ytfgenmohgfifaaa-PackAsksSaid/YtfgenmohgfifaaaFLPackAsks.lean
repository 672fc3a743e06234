import Derived.Test.YtfgenmohgfifaaaT
import Derived.Test.YtfgenmohgfifaaaFlaw3
import Derived.Test.YtfgenmohgfifaaaFpack
import Derived.Test.YtfgenmohgfifaaaFref1
namespace Go.Proofs.Ytfgenmohgfifaaa
open Go.Hx
set_option maxRecDepth 100000
set_option linter.unusedVariables false
/-! ### herdsman/herdsmanlaw3.PackAsks: function 3 -/
def law3_PackAsks.f (t : api_Tile) (w : Int) (h : Int) (few : Int) (raw : Bool) : Option Bool := if (List.length t.C : Int) > 600 then ((law3_told.f).bind fun v1 => some v1) else ((law3_near.f t w h few raw).bind fun v2 => (pack_Put.f v2).bind fun v3 => (ref1_MayTile.f v2).bind fun v4 => if (!v4) = true then (((law3_told.f).bind fun v7 => if v7 = true then ((pack_Form.f v2).bind fun v8 => some (((v8 == (-1)) && (v3.2 == 1)) && ((List.length v3.1 : Int) == 0))) else (some false)).bind fun x5 => some x5) else ((ref1_PutTile.f v2).bind fun v9 => ((law3_told.f).bind fun v12 => if v12 = true then ((pack_Form.f v2).bind fun v13 => if ((v13 == v9.1) && (v3.2 == 0)) = true then ((ref1_Bytes.f v3.1 v9.2).bind fun v14 => some v14) else (some false)) else (some false)).bind fun x10 => some x10))
set_option maxHeartbeats 4000000 in
theorem law3_PackAsks.c {a_t_C : Option Addr} {n_t_C : Nat} (t : api_Tile) (w : Int) (h : Int) (few : Int) (raw : Bool) (r : Bool) (F : Hp) (H : law3_PackAsks.f t w h few raw = some r) (h_t_C : SliceR (Fl.int .u8) t.C a_t_C F) (c_t_C : List.length t.C ≤ n_t_C) :
    CallsL Try.prog 3 [(.agg #[(.int .i64 t.W), (.int .i64 t.H), (.slice a_t_C (List.length t.C) n_t_C)]), (.int .i64 w), (.int .i64 h), (.int .i64 few), (.bool raw)] [F] (fun _ : Unit => (.bool r)) (fun _ => [F]) := by
  unfold law3_PackAsks.f at H
  refine calls_atL [(0, (.agg #[(.int .i64 t.W), (.int .i64 t.H), (.slice a_t_C (List.length t.C) n_t_C)])), (1, (.int .i64 w)), (2, (.int .i64 h)), (3, (.int .i64 few)), (4, (.bool raw))] Try.func3 rfl rfl ⟨rfl, rfl, rfl, rfl, rfl, trivial⟩ (fun W => ?_)
  refine at_seq ?_
  refine at_region [0, 1] rfl ?_
  refine at_cons (at_bx T [(.int .i64 t.W), (.int .i64 t.H), (.slice a_t_C (List.length t.C) n_t_C)] rfl rfl rfl rfl (fun b1 => ?_))
  refine at_s T rfl ?_
  refine at_end ?_
  refine at_sub [(1, (.int .i64 w)), (2, (.int .i64 h)), (3, (.int .i64 few)), (4, (.bool raw)), (5, (.pointer (some ⟨b1, 0, none⟩)))] ⟨rfl, rfl, rfl, rfl, rfl, trivial⟩ ?_
  refine at_then ?_
  refine at_seq ?_
  refine at_seq ?_
  refine at_region [0, 1, 2, 3] rfl ?_
  refine at_s T rfl ?_
  refine at_v rfl (g_load T rfl rfl rfl rfl (in_var (j := 1) rfl rfl)) ?_
  iterate 2 refine at_s T rfl ?_
  refine at_end ?_
  refine at_sub [(1, (.int .i64 w)), (2, (.int .i64 h)), (3, (.int .i64 few)), (4, (.bool raw)), (5, (.pointer (some ⟨b1, 0, none⟩))), (19, (.bool (decide ((List.length t.C : Int) > 600))))] ⟨rfl, rfl, rfl, rfl, rfl, rfl, trivial⟩ ?_
  refine at_then ?_
  refine at_cond rfl (fun c1 => ?_) (fun c1 => ?_)
  · replace H := if_t (of_decide_eq_true c1) H
    refine at_seq ?_
    refine at_region [0, 1] rfl ?_
    obtain ⟨v1, V2, H⟩ := bind_e H
    refine at_cons (at_c (B := fun _ => []) [] rfl rfl rfl rfl has10 rfl rfl (law3_told.c  v1 _ V2) (fun _ => ?_))
    refine at_s T rfl ?_
    refine at_end ?_
    refine at_to [(10, (.bool v1))] [0] [F] ⟨rfl, trivial⟩ rfl ?_
    refine at_then ?_
    refine at_ret ?_
    refine at_rt ?_
    obtain rfl := Option.some.inj H
    exact at_post (T := T) rfl (.tmp rfl .nil) (fun w o => ⟨(), rfl, own_to [0] rfl o⟩)
  · replace H := if_f (of_decide_eq_false c1) H
    refine at_skip ?_
    refine at_then ?_
    refine at_seq ?_
    refine at_region [0, 1, 2, 3, 4, 5, 6, 7] rfl ?_
    refine at_v rfl (g_loadA T (cs := [(.int .i64 t.W), (.int .i64 t.H), (.slice a_t_C (List.length t.C) n_t_C)]) rfl rfl rfl rfl rfl rfl (in_varA (j := 1) rfl rfl)) ?_
    iterate 4 refine at_s T rfl ?_
    obtain ⟨v2, V3, H⟩ := bind_e H
    refine at_cons (at_cR (law3_near.R v2) [] [] rfl rfl rfl rfl has11 rfl rfl (law3_near.c t w h few raw v2 _ V3 (ro_of h_t_C (j := 0) rfl) c_t_C) ?_)
    rintro _ _ ⟨a2, n2, H2, s2, rfl, rfl⟩
    refine at_cons (at_al T [(.int .i64 0), (.int .i64 0), (.slice none 0 0)] rfl rfl rfl rfl (fun b3 => ?_))
    refine at_cons (at_st T 3 [(.int .i64 v2.W), (.int .i64 v2.H), (.slice a2 (List.length v2.C) n2)] rfl rfl rfl rfl rfl rfl rfl rfl rfl rfl ?_)
    refine at_end ?_
    refine at_to [(11, (.pointer (some ⟨b3, 0, none⟩)))] [0, 1, 1] [F, H2, [(b3, Obj.cells #[(.int .i64 v2.W), (.int .i64 v2.H), (.slice a2 (List.length v2.C) n2)] 24 (0, 0))]] ⟨rfl, trivial⟩ rfl ?_
    refine at_then ?_
    refine at_seq ?_
    refine at_region [0, 1, 2, 3, 4, 5, 6] rfl ?_
    refine at_v rfl (g_loadA T (cs := [(.int .i64 v2.W), (.int .i64 v2.H), (.slice a2 (List.length v2.C) n2)]) rfl rfl rfl rfl rfl rfl (in_varA (j := 2) rfl rfl)) ?_
    obtain ⟨v3, V4, H⟩ := bind_e H
    refine at_cons (at_cR (pack_Put.R v3) [] [] rfl rfl rfl rfl has12 rfl rfl (pack_Put.c v2 v3 _ V4 (own_of s2 (j := 1) rfl) s2.cap_le) ?_)
    rintro _ _ ⟨a4, n4, H4, s4, rfl, rfl⟩
    iterate 5 refine at_s T rfl ?_
    refine at_end ?_
    refine at_sub [(11, (.pointer (some ⟨b3, 0, none⟩))), (12, (.slice a4 (List.length v3.1) n4)), (13, (.int .i64 v3.2))] ⟨rfl, rfl, rfl, trivial⟩ ?_
    refine at_then ?_
    refine at_seq ?_
    refine at_seq ?_
    refine at_region [0, 1, 2] rfl ?_
    refine at_v rfl (g_loadA T (cs := [(.int .i64 v2.W), (.int .i64 v2.H), (.slice a2 (List.length v2.C) n2)]) rfl rfl rfl rfl rfl rfl (in_varA (j := 2) rfl rfl)) ?_
    obtain ⟨v4, V5, H⟩ := bind_e H
    refine at_cons (at_c (B := fun _ => []) [] rfl rfl rfl rfl has13 rfl rfl (ref1_MayTile.c v2 v4 _ V5 (own_of s2 (j := 1) rfl) s2.cap_le) (fun _ => ?_))
    refine at_s T rfl ?_
    refine at_end ?_
    refine at_sub [(11, (.pointer (some ⟨b3, 0, none⟩))), (12, (.slice a4 (List.length v3.1) n4)), (13, (.int .i64 v3.2)), (34, (.bool (!v4)))] ⟨rfl, rfl, rfl, rfl, trivial⟩ ?_
    refine at_then ?_
    refine at_cond rfl (fun c6 => ?_) (fun c6 => ?_)
    · replace H := if_t c6 H
      obtain ⟨z6, Z7, H⟩ := bind_e H
      refine at_seq_mid (σ := Bool) (fun x5 => x5 = z6) (fun x5 => [(10, (.bool x5))]) (fun x5 => [F]) ?_ ?_
      · refine at_region [0, 1, 2, 3, 4, 5, 6, 7, 8, 9, 10, 11, 12, 13, 14, 15] rfl ?_
        obtain ⟨v7, V8, Z7⟩ := bind_e Z7
        refine at_cons (at_c (B := fun _ => []) [] rfl rfl rfl rfl has10 rfl rfl (law3_told.c  v7 _ V8) (fun _ => ?_))
        refine at_s T rfl ?_
        refine at_case (s := 36) rfl (fun c9 => ?_) (fun c9 => ?_)
        · replace Z7 := if_t c9 Z7
          refine at_v rfl (g_loadA T (cs := [(.int .i64 v2.W), (.int .i64 v2.H), (.slice a2 (List.length v2.C) n2)]) rfl rfl rfl rfl rfl rfl (in_varA (j := 2) rfl rfl)) ?_
          obtain ⟨v8, V10, Z7⟩ := bind_e Z7
          refine at_cons (at_c (B := fun _ => []) [] rfl rfl rfl rfl has14 rfl rfl (pack_Form.c v2 v8 _ V10 (own_of s2 (j := 1) rfl) s2.cap_le) (fun _ => ?_))
          iterate 3 refine at_s T rfl ?_
          refine at_grp T [7, 8, 9] (s := 41) (c := (v8 == (-1))) [(12, (.slice a4 (List.length v3.1) n4)), (44, (.bool ((v8 == (-1)) && (v3.2 == 1))))] rfl rfl rfl (fun c11 => ⟨rfl, (by rw [c11]; rfl), trivial⟩) (fun c11 => ⟨rfl, (by rw [c11]; rfl), trivial⟩) ?_
          refine at_s T rfl ?_
          refine at_grp T [11, 12, 13, 14] (s := 45) (c := ((v8 == (-1)) && (v3.2 == 1))) [(49, (.bool (((v8 == (-1)) && (v3.2 == 1)) && ((List.length v3.1 : Int) == 0))))] rfl rfl rfl (fun c12 => ⟨(by rw [c12]; rfl), trivial⟩) (fun c12 => ⟨(by rw [c12]; rfl), trivial⟩) ?_
          refine at_s T rfl ?_
          refine at_end ?_
          refine at_to [(10, (.bool (((v8 == (-1)) && (v3.2 == 1)) && ((List.length v3.1 : Int) == 0))))] [0] [F] ⟨rfl, trivial⟩ rfl ?_
          refine at_then ?_
          obtain rfl := Option.some.inj Z7
          exact at_mid (((v8 == (-1)) && (v3.2 == 1)) && ((List.length v3.1 : Int) == 0)) [0] rfl ⟨rfl, trivial⟩ rfl
        · replace Z7 := if_f (bf c9) Z7
          iterate 14 refine at_s T rfl ?_
          refine at_end ?_
          refine at_to [(10, (.bool false))] [0] [F] ⟨rfl, trivial⟩ rfl ?_
          refine at_then ?_
          obtain rfl := Option.some.inj Z7
          exact at_mid false [0] rfl ⟨rfl, trivial⟩ rfl
      · rintro x5 rfl
        refine at_ret ?_
        refine at_rt ?_
        obtain rfl := Option.some.inj H
        exact at_post (T := T) rfl (.tmp rfl .nil) (fun w o => ⟨(), rfl, own_to [0] rfl o⟩)
    · replace H := if_f (bf c6) H
      refine at_skip ?_
      refine at_then ?_
      refine at_seq ?_
      refine at_region [0, 1, 2, 3, 4, 5, 6] rfl ?_
      refine at_v rfl (g_loadA T (cs := [(.int .i64 v2.W), (.int .i64 v2.H), (.slice a2 (List.length v2.C) n2)]) rfl rfl rfl rfl rfl rfl (in_varA (j := 2) rfl rfl)) ?_
      obtain ⟨v9, V13, H⟩ := bind_e H
      refine at_cons (at_cR (ref1_PutTile.R v9) [] [] rfl rfl rfl rfl has15 rfl rfl (ref1_PutTile.c v2 v9 _ V13 (own_of s2 (j := 1) rfl) s2.cap_le) ?_)
      rintro _ _ ⟨a5, n5, H5, s5, rfl, rfl⟩
      iterate 5 refine at_s T rfl ?_
      refine at_end ?_
      refine at_sub [(11, (.pointer (some ⟨b3, 0, none⟩))), (12, (.slice a4 (List.length v3.1) n4)), (13, (.int .i64 v3.2)), (14, (.int .i64 v9.1)), (15, (.slice a5 (List.length v9.2) n5))] ⟨rfl, rfl, rfl, rfl, rfl, trivial⟩ ?_
      refine at_then ?_
      obtain ⟨z11, Z14, H⟩ := bind_e H
      refine at_seq_mid (σ := Bool) (fun x10 => x10 = z11) (fun x10 => [(10, (.bool x10))]) (fun x10 => [F]) ?_ ?_
      · refine at_region [0, 1, 2, 3, 4, 5, 6, 7, 8, 9, 10, 11, 12, 13, 14, 15, 16] rfl ?_
        obtain ⟨v12, V15, Z14⟩ := bind_e Z14
        refine at_cons (at_c (B := fun _ => []) [] rfl rfl rfl rfl has10 rfl rfl (law3_told.c  v12 _ V15) (fun _ => ?_))
        refine at_s T rfl ?_
        refine at_case (s := 56) rfl (fun c16 => ?_) (fun c16 => ?_)
        · replace Z14 := if_t c16 Z14
          refine at_v rfl (g_loadA T (cs := [(.int .i64 v2.W), (.int .i64 v2.H), (.slice a2 (List.length v2.C) n2)]) rfl rfl rfl rfl rfl rfl (in_varA (j := 2) rfl rfl)) ?_
          obtain ⟨v13, V17, Z14⟩ := bind_e Z14
          refine at_cons (at_c (B := fun _ => []) [] rfl rfl rfl rfl has14 rfl rfl (pack_Form.c v2 v13 _ V17 (own_of s2 (j := 1) rfl) s2.cap_le) (fun _ => ?_))
          iterate 4 refine at_s T rfl ?_
          refine at_grp T [8, 9, 10] (s := 62) (c := (v13 == v9.1)) [(12, (.slice a4 (List.length v3.1) n4)), (15, (.slice a5 (List.length v9.2) n5)), (65, (.bool ((v13 == v9.1) && (v3.2 == 0))))] rfl rfl rfl (fun c18 => ⟨rfl, rfl, (by rw [c18]; rfl), trivial⟩) (fun c18 => ⟨rfl, rfl, (by rw [c18]; rfl), trivial⟩) ?_
          refine at_s T rfl ?_
          refine at_case (s := 66) rfl (fun c19 => ?_) (fun c19 => ?_)
          · replace Z14 := if_t c19 Z14
            iterate 2 refine at_s T rfl ?_
            obtain ⟨v14, V20, Z14⟩ := bind_e Z14
            refine at_cons (at_c (B := fun _ => []) [] rfl rfl rfl rfl has16 rfl rfl (ref1_Bytes.c v3.1 v9.2 v14 _ V20 (own_of s4 (j := 3) rfl) s4.cap_le (own_of s5 (j := 4) rfl) s5.cap_le) (fun _ => ?_))
            iterate 2 refine at_s T rfl ?_
            refine at_end ?_
            refine at_to [(10, (.bool v14))] [0] [F] ⟨rfl, trivial⟩ rfl ?_
            refine at_then ?_
            obtain rfl := Option.some.inj Z14
            exact at_mid v14 [0] rfl ⟨rfl, trivial⟩ rfl
          · replace Z14 := if_f (bf c19) Z14
            iterate 5 refine at_s T rfl ?_
            refine at_end ?_
            refine at_to [(10, (.bool false))] [0] [F] ⟨rfl, trivial⟩ rfl ?_
            refine at_then ?_
            obtain rfl := Option.some.inj Z14
            exact at_mid false [0] rfl ⟨rfl, trivial⟩ rfl
        · replace Z14 := if_f (bf c16) Z14
          iterate 15 refine at_s T rfl ?_
          refine at_end ?_
          refine at_to [(10, (.bool false))] [0] [F] ⟨rfl, trivial⟩ rfl ?_
          refine at_then ?_
          obtain rfl := Option.some.inj Z14
          exact at_mid false [0] rfl ⟨rfl, trivial⟩ rfl
      · rintro x10 rfl
        refine at_ret ?_
        obtain rfl := Option.some.inj H
        exact at_post (T := T) rfl (.tmp rfl .nil) (fun w o => ⟨(), rfl, own_to [0] rfl o⟩)
def law3_PackAsks.Pure : Prop := ∀ (t : api_Tile) (w : Int) (h : Int) (few : Int) (raw : Bool), (inI64 t.W ∧ inI64 t.H ∧ (∀ y ∈ t.C, inU8 y)) → inI64 w → inI64 h → inI64 few → List.length t.C ≤ 9223372036854775807 → law3_PackAsks.f t w h few raw = some true
end Go.Proofs.Ytfgenmohgfifaaa
