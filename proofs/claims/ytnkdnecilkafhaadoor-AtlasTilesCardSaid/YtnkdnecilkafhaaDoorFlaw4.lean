import Derived.Test.YtnkdnecilkafhaaDoorT
import Derived.Test.YtnkdnecilkafhaaDoorFatlas
import Derived.Test.YtnkdnecilkafhaaDoorFref1
namespace Go.Proofs.YtnkdnecilkafhaaDoor
open Go.Hx
set_option maxRecDepth 100000
set_option linter.unusedVariables false
noncomputable section
/-! ### herdsman/herdsmanlaw4.told: function 9 -/
def law4_told.f : Option Bool := (atlas_Put.f (api_Map.mk 1 1 [5])).bind fun v1 => (atlas_Get.f v1.1).bind fun v2 => (if ((v1.2 == 0) && (v2.2 == 0)) = true then ((ref1_Bytes.f v1.1 [1, 0, 1, 0, 0, 5]).bind fun v5 => if v5 = true then (if (v2.1.W == 1) = true then (if ((List.length v2.1.C : Int) == 1) = true then (if (0 ≤ (0 : Int) ∧ (0 : Int) < (List.length v2.1.C : Int)) then (some ((rd v2.1.C 0) == 5)) else none) else (some false)) else (some false)) else (some false)) else (some false)).bind fun x3 => some x3
set_option maxHeartbeats 4000000 in
theorem law4_told.c {el : Nat → Addr} (r : Bool) (F : Hp) (H : law4_told.f = some r) (hG : Glb 142 gs_ lits_ el F) :
    CallsL Tryd.prog 9 [] [F] (fun _ : Unit => (.bool r)) (fun _ => [F]) := by
  unfold law4_told.f at H
  refine calls_atL [] Tryd.func9 rfl rfl trivial (fun W => ?_)
  refine at_seq ?_
  refine at_region [0] rfl ?_
  refine at_s T rfl ?_
  refine at_end ?_
  refine at_sub [] trivial ?_
  refine at_then ?_
  refine at_seq ?_
  refine at_region [0, 1, 2, 3, 4, 5, 6, 7] rfl ?_
  refine at_cons (at_bs (k := (Fl.int .u8)) T [5] rfl rfl rfl rfl rfl rfl rfl rfl rfl (fun a1 H1 s1 => ?_))
  refine at_s T rfl ?_
  obtain ⟨v1, V1, H⟩ := bind_e H
  refine at_cons (at_cR (atlas_Put.R v1) [] [] rfl rfl rfl rfl has17 rfl rfl (atlas_Put.c (api_Map.mk 1 1 [5]) v1 _ V1 (own_of s1 (j := 1) rfl) s1.cap_le) ?_)
  rintro _ _ ⟨a2, n2, H2, s2, rfl, rfl⟩
  iterate 5 refine at_s T rfl ?_
  refine at_end ?_
  refine at_to [(1, (.slice a2 (List.length v1.1) n2)), (2, (.int .i64 v1.2))] [0, 1] [F, H2] ⟨rfl, rfl, trivial⟩ rfl ?_
  refine at_then ?_
  refine at_seq ?_
  refine at_region [0, 1, 2, 3, 4, 5, 6, 7] rfl ?_
  refine at_s T rfl ?_
  obtain ⟨v2, V2, H⟩ := bind_e H
  refine at_cons (at_cR (atlas_Get.R el v2) [] [] rfl rfl rfl rfl has13 rfl rfl (atlas_Get.c v1.1 v2 _ V2 (glb_of hG (j := 0) rfl) (own_of s2 (j := 1) rfl) s2.cap_le) ?_)
  rintro _ _ ⟨a3, n3, H3, s3, rfl, rfl⟩
  iterate 3 refine at_s T rfl ?_
  refine at_cons (at_al T [(.int .i64 0), (.int .i64 0), (.slice none 0 0)] rfl rfl rfl rfl (fun b4 => ?_))
  refine at_cons (at_st T 3 [(.int .i64 v2.1.W), (.int .i64 v2.1.H), (.slice a3 (List.length v2.1.C) n3)] rfl rfl rfl rfl rfl rfl rfl rfl rfl rfl ?_)
  refine at_s T rfl ?_
  refine at_end ?_
  refine at_sub [(1, (.slice a2 (List.length v1.1) n2)), (2, (.int .i64 v1.2)), (3, (.pointer (some ⟨b4, 0, none⟩))), (4, (.int .i64 v2.2))] ⟨rfl, rfl, rfl, rfl, trivial⟩ ?_
  refine at_then ?_
  obtain ⟨z4, Z3, H⟩ := bind_e H
  refine at_seq_mid (σ := Bool) (fun x3 => x3 = z4) (fun x3 => [(0, (.bool x3))]) (fun x3 => [F]) ?_ ?_
  · refine at_region [0, 1, 2, 3, 4, 5, 6, 7, 8, 9, 10, 11, 12, 13, 14, 15, 16, 17, 18, 19, 20, 21, 22, 23, 24, 25, 26, 27, 28, 29] rfl ?_
    iterate 3 refine at_s T rfl ?_
    refine at_grp T [3, 4, 5] (s := 18) (c := (v1.2 == 0)) [(1, (.slice a2 (List.length v1.1) n2)), (3, (.pointer (some ⟨b4, 0, none⟩))), (21, (.bool ((v1.2 == 0) && (v2.2 == 0))))] rfl rfl rfl (fun c4 => ⟨rfl, rfl, (by rw [c4]; rfl), trivial⟩) (fun c4 => ⟨rfl, rfl, (by rw [c4]; rfl), trivial⟩) ?_
    refine at_s T rfl ?_
    refine at_case (s := 22) rfl (fun c5 => ?_) (fun c5 => ?_)
    · replace Z3 := if_t c5 Z3
      refine at_s T rfl ?_
      refine at_cons (at_bs (k := (Fl.int .u8)) T [1, 0, 1, 0, 0, 5] rfl rfl rfl rfl rfl rfl rfl rfl rfl (fun a5 H5 s5 => ?_))
      obtain ⟨v5, V6, Z3⟩ := bind_e Z3
      refine at_cons (at_c (B := fun _ => []) [] rfl rfl rfl rfl has16 rfl rfl (ref1_Bytes.c v1.1 [1, 0, 1, 0, 0, 5] v5 _ V6 (own_of s2 (j := 1) rfl) s2.cap_le (own_of s5 (j := 4) rfl) s5.cap_le) (fun _ => ?_))
      iterate 2 refine at_s T rfl ?_
      refine at_case (s := 27) rfl (fun c7 => ?_) (fun c7 => ?_)
      · replace Z3 := if_t c7 Z3
        refine at_s T rfl ?_
        refine at_v rfl (g_load T rfl rfl rfl rfl (in_var (j := 3) rfl rfl)) ?_
        iterate 3 refine at_s T rfl ?_
        refine at_case (s := 32) rfl (fun c8 => ?_) (fun c8 => ?_)
        · replace Z3 := if_t c8 Z3
          refine at_s T rfl ?_
          refine at_v rfl (g_load T rfl rfl rfl rfl (in_var (j := 3) rfl rfl)) ?_
          iterate 4 refine at_s T rfl ?_
          refine at_case (s := 38) rfl (fun c9 => ?_) (fun c9 => ?_)
          · replace Z3 := if_t c9 Z3
            refine at_s T rfl ?_
            refine at_v rfl (g_load T rfl rfl rfl rfl (in_var (j := 3) rfl rfl)) ?_
            obtain ⟨c10, Z3⟩ := chk_e Z3
            obtain ⟨q6, o6, e6⟩ := s3.r.addr c10.1 c10.2
            refine at_v rfl (g_index T rfl rfl rfl rfl rfl e6 c10.1 c10.2) ?_
            refine at_v rfl (g_load T rfl rfl rfl rfl (in_elem1 (k := (Fl.int .u8)) (own_of s3 (j := 2) rfl) e6 c10 0 rfl)) ?_
            iterate 3 refine at_s T rfl ?_
            refine at_end ?_
            refine at_to [(0, (.bool ((rd v2.1.C 0) == 5)))] [0] [F] ⟨rfl, trivial⟩ rfl ?_
            refine at_then ?_
            obtain rfl := Option.some.inj Z3
            exact at_mid ((rd v2.1.C 0) == 5) [0] rfl ⟨rfl, trivial⟩ rfl
          · replace Z3 := if_f (bf c9) Z3
            iterate 7 refine at_s T rfl ?_
            refine at_end ?_
            refine at_to [(0, (.bool false))] [0] [F] ⟨rfl, trivial⟩ rfl ?_
            refine at_then ?_
            obtain rfl := Option.some.inj Z3
            exact at_mid false [0] rfl ⟨rfl, trivial⟩ rfl
        · replace Z3 := if_f (bf c8) Z3
          iterate 13 refine at_s T rfl ?_
          refine at_end ?_
          refine at_to [(0, (.bool false))] [0] [F] ⟨rfl, trivial⟩ rfl ?_
          refine at_then ?_
          obtain rfl := Option.some.inj Z3
          exact at_mid false [0] rfl ⟨rfl, trivial⟩ rfl
      · replace Z3 := if_f (bf c7) Z3
        iterate 18 refine at_s T rfl ?_
        refine at_end ?_
        refine at_to [(0, (.bool false))] [0] [F] ⟨rfl, trivial⟩ rfl ?_
        refine at_then ?_
        obtain rfl := Option.some.inj Z3
        exact at_mid false [0] rfl ⟨rfl, trivial⟩ rfl
    · replace Z3 := if_f (bf c5) Z3
      iterate 23 refine at_s T rfl ?_
      refine at_end ?_
      refine at_to [(0, (.bool false))] [0] [F] ⟨rfl, trivial⟩ rfl ?_
      refine at_then ?_
      obtain rfl := Option.some.inj Z3
      exact at_mid false [0] rfl ⟨rfl, trivial⟩ rfl
  · rintro x3 rfl
    refine at_ret ?_
    obtain rfl := Option.some.inj H
    exact at_post (T := T) rfl (.tmp rfl .nil) (fun w o => ⟨(), rfl, own_to [0] rfl o⟩)

/-! ### herdsman/herdsmanlaw4.near: function 20 -/
def law4_near.f (m : api_Map) (raw : Bool) : Option api_Map := if raw = true then ((ref1_Own.f m).bind fun v1 => some v1) else ((ref1_Made.f m.W m.H m.C).bind fun v2 => some v2)
def law4_near.R (r : api_Map) (u : Value) (G : List Hp) : Prop := ∃ (a0 : Option Addr) (n0 : Nat) (H0 : Hp), SliceO (Fl.int .u8) 5 r.C a0 n0 H0 ∧ u = (.agg #[(.int .i64 r.W), (.int .i64 r.H), (.slice a0 (List.length r.C) n0)]) ∧ G = [H0]
set_option maxHeartbeats 4000000 in
theorem law4_near.c {a_m_C : Option Addr} {n_m_C : Nat} (m : api_Map) (raw : Bool) (r : api_Map) (F : Hp) (H : law4_near.f m raw = some r) (h_m_C : SliceR (Fl.int .u8) m.C a_m_C F) (c_m_C : List.length m.C ≤ n_m_C) :
    CallsL Tryd.prog 20 [(.agg #[(.int .i64 m.W), (.int .i64 m.H), (.slice a_m_C (List.length m.C) n_m_C)]), (.bool raw)] [F] (fun qp : { qp : Value × List Hp // law4_near.R r qp.1 qp.2 } => qp.1.1) (fun qp => (qp.1.2 ++ []) ++ [F]) := by
  unfold law4_near.f at H
  refine calls_atL [(0, (.agg #[(.int .i64 m.W), (.int .i64 m.H), (.slice a_m_C (List.length m.C) n_m_C)])), (1, (.bool raw))] Tryd.func20 rfl rfl ⟨rfl, rfl, trivial⟩ (fun W => ?_)
  refine at_seq ?_
  refine at_region [0, 1] rfl ?_
  refine at_cons (at_bx T [(.int .i64 m.W), (.int .i64 m.H), (.slice a_m_C (List.length m.C) n_m_C)] rfl rfl rfl rfl (fun b1 => ?_))
  refine at_cons (at_al T [(.int .i64 0), (.int .i64 0), (.slice none 0 0)] rfl rfl rfl rfl (fun b2 => ?_))
  refine at_end ?_
  refine at_sub [(1, (.bool raw)), (2, (.pointer (some ⟨b1, 0, none⟩))), (4, (.pointer (some ⟨b2, 0, none⟩)))] ⟨rfl, rfl, rfl, trivial⟩ ?_
  refine at_then ?_
  refine at_seq ?_
  refine at_seq ?_
  refine at_region [0] rfl ?_
  refine at_s T rfl ?_
  refine at_end ?_
  refine at_sub [(2, (.pointer (some ⟨b1, 0, none⟩))), (4, (.pointer (some ⟨b2, 0, none⟩))), (5, (.bool raw))] ⟨rfl, rfl, rfl, trivial⟩ ?_
  refine at_then ?_
  refine at_cond rfl (fun c1 => ?_) (fun c1 => ?_)
  · replace H := if_t c1 H
    refine at_seq ?_
    refine at_region [0, 1, 2] rfl ?_
    refine at_v rfl (g_loadA T (cs := [(.int .i64 m.W), (.int .i64 m.H), (.slice a_m_C (List.length m.C) n_m_C)]) rfl rfl rfl rfl rfl rfl (in_varA (j := 1) rfl rfl)) ?_
    obtain ⟨v1, V2, H⟩ := bind_e H
    refine at_cons (at_cR (ref1_Own.R v1) [] [] rfl rfl rfl rfl has18 rfl rfl (ref1_Own.c m v1 _ V2 (ro_of h_m_C (j := 0) rfl) c_m_C) ?_)
    rintro _ _ ⟨a3, n3, H3, s3, rfl, rfl⟩
    refine at_cons (at_st T 2 [(.int .i64 v1.W), (.int .i64 v1.H), (.slice a3 (List.length v1.C) n3)] rfl rfl rfl rfl rfl rfl rfl rfl rfl rfl ?_)
    refine at_end ?_
    refine at_to [(4, (.pointer (some ⟨b2, 0, none⟩)))] [0, 1, 1] [F, [(b2, Obj.cells #[(.int .i64 v1.W), (.int .i64 v1.H), (.slice a3 (List.length v1.C) n3)] 26 (0, 0))], H3] ⟨rfl, trivial⟩ rfl ?_
    refine at_then ?_
    refine at_ret ?_
    refine at_rt ?_
    obtain rfl := Option.some.inj H
    exact at_post (T := T) rfl (.aggv (j := 1) [(.int .i64 v1.W), (.int .i64 v1.H), (.slice a3 (List.length v1.C) n3)] rfl rfl rfl rfl rfl rfl rfl .nil) (fun w o => ⟨⟨(_, _), ⟨a3, n3, H3, s3, rfl, rfl⟩⟩, rfl, own_to [2, 0] rfl o⟩)
  · replace H := if_f (bf c1) H
    refine at_skip ?_
    refine at_then ?_
    refine at_seq ?_
    refine at_region [0, 1, 2, 3, 4, 5, 6, 7] rfl ?_
    refine at_s T rfl ?_
    refine at_v rfl (g_load T rfl rfl rfl rfl (in_var (j := 1) rfl rfl)) ?_
    refine at_s T rfl ?_
    refine at_v rfl (g_load T rfl rfl rfl rfl (in_var (j := 1) rfl rfl)) ?_
    refine at_s T rfl ?_
    refine at_v rfl (g_load T rfl rfl rfl rfl (in_var (j := 1) rfl rfl)) ?_
    obtain ⟨v2, V3, H⟩ := bind_e H
    refine at_cons (at_cR (ref1_Made.R v2) [] [] rfl rfl rfl rfl has11 rfl rfl (ref1_Made.c m.W m.H m.C v2 _ V3 (ro_of h_m_C (j := 0) rfl) c_m_C) ?_)
    rintro _ _ ⟨a4, n4, H4, s4, rfl, rfl⟩
    refine at_cons (at_st T 2 [(.int .i64 v2.W), (.int .i64 v2.H), (.slice a4 (List.length v2.C) n4)] rfl rfl rfl rfl rfl rfl rfl rfl rfl rfl ?_)
    refine at_end ?_
    refine at_to [(4, (.pointer (some ⟨b2, 0, none⟩)))] [0, 1, 1] [F, [(b2, Obj.cells #[(.int .i64 v2.W), (.int .i64 v2.H), (.slice a4 (List.length v2.C) n4)] 26 (0, 0))], H4] ⟨rfl, trivial⟩ rfl ?_
    refine at_then ?_
    refine at_ret ?_
    obtain rfl := Option.some.inj H
    exact at_post (T := T) rfl (.aggv (j := 1) [(.int .i64 v2.W), (.int .i64 v2.H), (.slice a4 (List.length v2.C) n4)] rfl rfl rfl rfl rfl rfl rfl .nil) (fun w o => ⟨⟨(_, _), ⟨a4, n4, H4, s4, rfl, rfl⟩⟩, rfl, own_to [2, 0] rfl o⟩)
end

end Go.Proofs.YtnkdnecilkafhaaDoor
