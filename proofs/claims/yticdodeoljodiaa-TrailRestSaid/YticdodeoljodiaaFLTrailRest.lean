import Derived.Test.YticdodeoljodiaaT
import Derived.Test.YticdodeoljodiaaFlaw30
import Derived.Test.YticdodeoljodiaaFref1
import Derived.Test.YticdodeoljodiaaFref21
import Derived.Test.YticdodeoljodiaaFref27
import Derived.Test.YticdodeoljodiaaFtrail
namespace Go.Proofs.Yticdodeoljodiaa
open Go.Hx
set_option maxRecDepth 100000
set_option linter.unusedVariables false
noncomputable section
/-! ### herdsman/herdsmanlaw30.TrailRest: function 11 -/
def law30_TrailRest.f (m : api_Map) (l : (List api_Unit)) (k : (List Int)) (raw : Bool) : Option Bool := if (List.length m.C : Int) > 2500 then ((law30_told.f).bind fun v1 => some v1) else ((if (0 ≤ (0 : Int) ∧ (0 : Int) ≤ (if 12 < (List.length l : Int) then 12 else (List.length l : Int)) ∧ (if 12 < (List.length l : Int) then 12 else (List.length l : Int)) ≤ (List.length l : Int)) then ((ref1_Own.f m).bind fun v7 => if (List.length ([] : List api_Unit) + List.length (sub' l 0 (if 12 < (List.length l : Int) then 12 else (List.length l : Int))) ≤ 1099511627776) then (some (v7.W, v7.H, v7.C, (([] : List api_Unit) ++ (sub' l 0 (if 12 < (List.length l : Int) then 12 else (List.length l : Int)))))) else none) else none).bind fun (x2, x3, x4, x5) => (if (!raw) = true then ((ref1_Made.f m.W m.H m.C).bind fun v17 => if (0 ≤ (0 : Int) ∧ (0 : Int) ≤ (if 1 < (List.length x5 : Int) then 1 else (List.length x5 : Int)) ∧ (if 1 < (List.length x5 : Int) then 1 else (List.length x5 : Int)) ≤ (List.length x5 : Int)) then ((ref21_Made.f v17.W v17.H k).bind fun v18 => if (List.length v18 + List.length (sub' x5 0 (if 1 < (List.length x5 : Int) then 1 else (List.length x5 : Int))) ≤ 1099511627776) then (if (List.length (v18 ++ (sub' x5 0 (if 1 < (List.length x5 : Int) then 1 else (List.length x5 : Int)))) : Int) > 12 then (if (0 ≤ (0 : Int) ∧ (0 : Int) ≤ (12 : Int) ∧ (12 : Int) ≤ (List.length (v18 ++ (sub' x5 0 (if 1 < (List.length x5 : Int) then 1 else (List.length x5 : Int)))) : Int)) then (some (v17.W, v17.H, v17.C, (sub' (v18 ++ (sub' x5 0 (if 1 < (List.length x5 : Int) then 1 else (List.length x5 : Int)))) 0 12))) else none) else (some (v17.W, v17.H, v17.C, (v18 ++ (sub' x5 0 (if 1 < (List.length x5 : Int) then 1 else (List.length x5 : Int))))))) else none) else none) else (some (x2, x3, x4, x5))).bind fun (x12, x13, x14, x15) => (trail_Rest.f (api_Map.mk x12 x13 x14) x15).bind fun v19 => (ref27_Rest.f (api_Map.mk x12 x13 x14) x15).bind fun v20 => (if v20.2 = true then ((ref27_First.f (api_Map.mk x12 x13 x14) x15).bind fun v24 => some (v20.1, v24)) else (some (0, (-1)))).bind fun (x21, x22) => ((law30_told.f).bind fun v27 => if ((v27 && (v19.1 == x21)) && (v19.2 == v20.2)) = true then ((trail_First.f (api_Map.mk x12 x13 x14) x15).bind fun v28 => some (v28 == x22)) else (some false)).bind fun x25 => some x25)
set_option maxHeartbeats 4000000 in
theorem law30_TrailRest.c {a_m_C : Option Addr} {n_m_C : Nat} {a_l : Option Addr} {n_l : Nat} {a_k : Option Addr} {n_k : Nat} (m : api_Map) (l : (List api_Unit)) (k : (List Int)) (raw : Bool) (r : Bool) (F : Hp) (H : law30_TrailRest.f m l k raw = some r) (h_m_C : SliceR (Fl.int .u8) m.C a_m_C F) (c_m_C : List.length m.C ≤ n_m_C) (h_l : SliceR k_api_Unit l a_l F) (c_l : List.length l ≤ n_l) (h_k : SliceR (Fl.int .i64) k a_k F) (c_k : List.length k ≤ n_k) :
    CallsL Try.prog 11 [(.agg #[(.int .i64 m.W), (.int .i64 m.H), (.slice a_m_C (List.length m.C) n_m_C)]), (.slice a_l (List.length l) n_l), (.slice a_k (List.length k) n_k), (.bool raw)] [F] (fun _ : Unit => (.bool r)) (fun _ => [F]) := by
  unfold law30_TrailRest.f at H
  refine calls_atL [(0, (.agg #[(.int .i64 m.W), (.int .i64 m.H), (.slice a_m_C (List.length m.C) n_m_C)])), (1, (.slice a_l (List.length l) n_l)), (2, (.slice a_k (List.length k) n_k)), (3, (.bool raw))] Try.func11 rfl rfl ⟨rfl, rfl, rfl, rfl, trivial⟩ (fun W => ?_)
  refine at_seq ?_
  refine at_region [0, 1] rfl ?_
  refine at_cons (at_bx T [(.int .i64 m.W), (.int .i64 m.H), (.slice a_m_C (List.length m.C) n_m_C)] rfl rfl rfl rfl (fun b1 => ?_))
  refine at_s T rfl ?_
  refine at_end ?_
  refine at_sub [(1, (.slice a_l (List.length l) n_l)), (2, (.slice a_k (List.length k) n_k)), (3, (.bool raw)), (4, (.pointer (some ⟨b1, 0, none⟩)))] ⟨rfl, rfl, rfl, rfl, trivial⟩ ?_
  refine at_then ?_
  refine at_seq ?_
  refine at_seq ?_
  refine at_region [0, 1, 2, 3] rfl ?_
  refine at_s T rfl ?_
  refine at_v rfl (g_load T rfl rfl rfl rfl (in_var (j := 1) rfl rfl)) ?_
  iterate 2 refine at_s T rfl ?_
  refine at_end ?_
  refine at_sub [(1, (.slice a_l (List.length l) n_l)), (2, (.slice a_k (List.length k) n_k)), (3, (.bool raw)), (4, (.pointer (some ⟨b1, 0, none⟩))), (19, (.bool (decide ((List.length m.C : Int) > 2500))))] ⟨rfl, rfl, rfl, rfl, rfl, trivial⟩ ?_
  refine at_then ?_
  refine at_cond rfl (fun c1 => ?_) (fun c1 => ?_)
  · replace H := if_t (of_decide_eq_true c1) H
    refine at_seq ?_
    refine at_region [0, 1] rfl ?_
    obtain ⟨v1, V2, H⟩ := bind_e H
    refine at_cons (at_c (B := fun _ => []) [] rfl rfl rfl rfl has34 rfl rfl (law30_told.c  v1 _ V2) (fun _ => ?_))
    refine at_s T rfl ?_
    refine at_end ?_
    refine at_to [(8, (.bool v1))] [0] [F] ⟨rfl, trivial⟩ rfl ?_
    refine at_then ?_
    refine at_ret ?_
    refine at_rt ?_
    obtain rfl := Option.some.inj H
    exact at_post (T := T) rfl (.tmp rfl .nil) (fun w o => ⟨(), rfl, own_to [0] rfl o⟩)
  · replace H := if_f (of_decide_eq_false c1) H
    refine at_skip ?_
    refine at_then ?_
    obtain ⟨z6, Z3, H⟩ := bind_e H
    refine at_seq_mid (σ := Int × Int × List Int × List api_Unit × Nat × Option Addr × Nat × Hp × Option Addr × Nat × Hp) (fun ⟨x2, x3, x4, x5, b2, a3, n3, H3, a4, n4, H4⟩ => (x2, x3, x4, x5) = z6 ∧ SliceO (Fl.int .u8) 5 x4 a3 n3 H3 ∧ SliceO k_api_Unit 72 x5 a4 n4 H4) (fun ⟨x2, x3, x4, x5, b2, a3, n3, H3, a4, n4, H4⟩ => [(2, (.slice a_k (List.length k) n_k)), (3, (.bool raw)), (4, (.pointer (some ⟨b1, 0, none⟩))), (9, (.pointer (some ⟨b2, 0, none⟩))), (10, (.slice a4 (List.length x5) n4))]) (fun ⟨x2, x3, x4, x5, b2, a3, n3, H3, a4, n4, H4⟩ => [F, [(b1, Obj.cells #[(.int .i64 m.W), (.int .i64 m.H), (.slice a_m_C (List.length m.C) n_m_C)] 24 (0, 0))], [(b2, Obj.cells #[(.int .i64 x2), (.int .i64 x3), (.slice a3 (List.length x4) n3)] 24 (0, 0))], H3, H4]) ?_ ?_
    · refine at_region_m [[], [0], [], [], [], [4], [4, 5], [3, 4, 5, 6], [0, 1, 2, 3, 4, 5, 6, 7], [], [0, 1, 2, 3, 4, 5, 6, 7, 8, 9], [0, 1, 2, 3, 4, 5, 6, 7, 8, 9, 10]] [] [F, [(b1, Obj.cells #[(.int .i64 m.W), (.int .i64 m.H), (.slice a_m_C (List.length m.C) n_m_C)] 24 (0, 0))]] mix (by kernel_rfl) (by repeat first | exact pf_body | refine pf_then ?_ | refine pf_block ?_) (fun hg pf => ?_)
      refine atm_v 0 hg pf (by kernel_rfl) (still_o [0, 0] rfl) rfl rfl (g_loadA T (cs := [(.int .i64 m.W), (.int .i64 m.H), (.slice a_m_C (List.length m.C) n_m_C)]) rfl rfl rfl rfl rfl rfl (in_varA (j := 1) rfl rfl)) ?_
      refine atm_s T 3 hg pf (by kernel_rfl) (still_o [0, 0] rfl) rfl ?_
      refine atm_s T 4 hg pf (by kernel_rfl) (still_o [0, 0] rfl) rfl ?_
      refine atm_s T 5 hg pf (by kernel_rfl) (still_o [0, 0] rfl) rfl ?_
      refine atm_s T 6 hg pf (by kernel_rfl) (still_o [0, 0] rfl) rfl ?_
      obtain ⟨c4, Z3⟩ := chk_e Z3
      refine atm_v 7 hg pf (by kernel_rfl) (still_o [0, 0] rfl) rfl rfl (g_sub T rfl rfl rfl rfl rfl rfl c4 c_l) ?_
      refine atm_three 1 2 9 (by kernel_rfl) ?_ ?_ ?_
      · obtain ⟨v7, V5, Z3⟩ := bind_e Z3
        refine at_cR (ref1_Own.R v7) [] [] rfl rfl rfl rfl has35 rfl rfl (ref1_Own.c m v7 _ V5 (ro_of h_m_C (j := 0) rfl) c_m_C) ?_
        rintro _ _ ⟨a5, n5, H5, s5, rfl, rfl⟩
        refine atm_next (still_o [0, 0] rfl) ?_
        refine atm_two 2 9 (by kernel_rfl) ?_ ?_
        · refine at_bs (k := k_api_Unit) T ([] : List api_Unit) rfl rfl rfl rfl rfl rfl rfl rfl rfl (fun a6 H6 s6 => ?_)
          refine atm_next (still_o [0, 0] rfl) ?_
          refine atm_two 8 9 (by kernel_rfl) ?_ ?_
          · obtain ⟨c6, Z3⟩ := chk_e Z3
            refine at_ap (k := k_api_Unit) (xs := ([] : List api_Unit)) T (g := 3) rfl rfl rfl rfl rfl rfl rfl rfl rfl rfl s6 (sub_r (ro_of h_l (j := 0) rfl) c4 c_l) c6 rfl (fun a7 n7 H7 s7 => ?_)
            refine atm_next (still_o [0, 0] rfl) ?_
            refine atm_one 9 (by kernel_rfl) ?_
            refine at_al T [(.int .i64 0), (.int .i64 0), (.slice none 0 0)] rfl rfl rfl rfl (fun b8 => ?_)
            refine atm_next (still_o [0, 0] rfl) ?_
            refine atm_one 10 (by kernel_rfl) ?_
            refine at_st T 4 [(.int .i64 v7.W), (.int .i64 v7.H), (.slice a5 (List.length v7.C) n5)] rfl rfl rfl rfl rfl rfl rfl rfl rfl rfl ?_
            refine atm_next (still_o [0, 0] rfl) ?_
            refine atm_s T 11 hg pf (by kernel_rfl) (still_o [0, 0] rfl) rfl ?_
            refine atm_end (by kernel_rfl) ?_
            refine at_sub [(2, (.slice a_k (List.length k) n_k)), (3, (.bool raw)), (4, (.pointer (some ⟨b1, 0, none⟩))), (9, (.pointer (some ⟨b8, 0, none⟩))), (10, (.slice a7 (List.length (([] : List api_Unit) ++ (sub' l 0 (if 12 < (List.length l : Int) then 12 else (List.length l : Int))))) n7))] ⟨rfl, rfl, rfl, rfl, rfl, trivial⟩ ?_
            refine at_then ?_
            obtain rfl := Option.some.inj Z3
            exact at_mid (v7.W, v7.H, v7.C, (([] : List api_Unit) ++ (sub' l 0 (if 12 < (List.length l : Int) then 12 else (List.length l : Int)))), b8, a5, n5, H5, a7, n7, H7) [0, 0, 2, 0, 0] ⟨rfl, s5, s7⟩ ⟨rfl, rfl, rfl, rfl, rfl, trivial⟩ rfl
          · refine at_al T [(.int .i64 0), (.int .i64 0), (.slice none 0 0)] rfl rfl rfl rfl (fun b9 => ?_)
            refine atm_next (still_o [0, 0] rfl) ?_
            refine atm_one 8 (by kernel_rfl) ?_
            obtain ⟨c7, Z3⟩ := chk_e Z3
            refine at_ap (k := k_api_Unit) (xs := ([] : List api_Unit)) T (g := 3) rfl rfl rfl rfl rfl rfl rfl rfl rfl rfl s6 (sub_r (ro_of h_l (j := 0) rfl) c4 c_l) c7 rfl (fun a10 n10 H10 s10 => ?_)
            refine atm_next (still_o [0, 0] rfl) ?_
            refine atm_one 10 (by kernel_rfl) ?_
            refine at_st T 4 [(.int .i64 v7.W), (.int .i64 v7.H), (.slice a5 (List.length v7.C) n5)] rfl rfl rfl rfl rfl rfl rfl rfl rfl rfl ?_
            refine atm_next (still_o [0, 0] rfl) ?_
            refine atm_s T 11 hg pf (by kernel_rfl) (still_o [0, 0] rfl) rfl ?_
            refine atm_end (by kernel_rfl) ?_
            refine at_sub [(2, (.slice a_k (List.length k) n_k)), (3, (.bool raw)), (4, (.pointer (some ⟨b1, 0, none⟩))), (9, (.pointer (some ⟨b9, 0, none⟩))), (10, (.slice a10 (List.length (([] : List api_Unit) ++ (sub' l 0 (if 12 < (List.length l : Int) then 12 else (List.length l : Int))))) n10))] ⟨rfl, rfl, rfl, rfl, rfl, trivial⟩ ?_
            refine at_then ?_
            obtain rfl := Option.some.inj Z3
            exact at_mid (v7.W, v7.H, v7.C, (([] : List api_Unit) ++ (sub' l 0 (if 12 < (List.length l : Int) then 12 else (List.length l : Int)))), b9, a5, n5, H5, a10, n10, H10) [0, 0, 2, 0, 0] ⟨rfl, s5, s10⟩ ⟨rfl, rfl, rfl, rfl, rfl, trivial⟩ rfl
        · refine at_al T [(.int .i64 0), (.int .i64 0), (.slice none 0 0)] rfl rfl rfl rfl (fun b11 => ?_)
          refine atm_next (still_o [0, 0] rfl) ?_
          refine atm_one 2 (by kernel_rfl) ?_
          refine at_bs (k := k_api_Unit) T ([] : List api_Unit) rfl rfl rfl rfl rfl rfl rfl rfl rfl (fun a12 H12 s12 => ?_)
          refine atm_next (still_o [0, 0] rfl) ?_
          refine atm_one 8 (by kernel_rfl) ?_
          obtain ⟨c8, Z3⟩ := chk_e Z3
          refine at_ap (k := k_api_Unit) (xs := ([] : List api_Unit)) T (g := 4) rfl rfl rfl rfl rfl rfl rfl rfl rfl rfl s12 (sub_r (ro_of h_l (j := 0) rfl) c4 c_l) c8 rfl (fun a13 n13 H13 s13 => ?_)
          refine atm_next (still_o [0, 0] rfl) ?_
          refine atm_one 10 (by kernel_rfl) ?_
          refine at_st T 3 [(.int .i64 v7.W), (.int .i64 v7.H), (.slice a5 (List.length v7.C) n5)] rfl rfl rfl rfl rfl rfl rfl rfl rfl rfl ?_
          refine atm_next (still_o [0, 0] rfl) ?_
          refine atm_s T 11 hg pf (by kernel_rfl) (still_o [0, 0] rfl) rfl ?_
          refine atm_end (by kernel_rfl) ?_
          refine at_sub [(2, (.slice a_k (List.length k) n_k)), (3, (.bool raw)), (4, (.pointer (some ⟨b1, 0, none⟩))), (9, (.pointer (some ⟨b11, 0, none⟩))), (10, (.slice a13 (List.length (([] : List api_Unit) ++ (sub' l 0 (if 12 < (List.length l : Int) then 12 else (List.length l : Int))))) n13))] ⟨rfl, rfl, rfl, rfl, rfl, trivial⟩ ?_
          refine at_then ?_
          obtain rfl := Option.some.inj Z3
          exact at_mid (v7.W, v7.H, v7.C, (([] : List api_Unit) ++ (sub' l 0 (if 12 < (List.length l : Int) then 12 else (List.length l : Int)))), b11, a5, n5, H5, a13, n13, H13) [0, 0, 1, 0, 0] ⟨rfl, s5, s13⟩ ⟨rfl, rfl, rfl, rfl, rfl, trivial⟩ rfl
      · refine at_bs (k := k_api_Unit) T ([] : List api_Unit) rfl rfl rfl rfl rfl rfl rfl rfl rfl (fun a14 H14 s14 => ?_)
        refine atm_next (still_o [0, 0] rfl) ?_
        refine atm_two 1 9 (by kernel_rfl) ?_ ?_
        · obtain ⟨v8, V9, Z3⟩ := bind_e Z3
          refine at_cR (ref1_Own.R v8) [] [] rfl rfl rfl rfl has35 rfl rfl (ref1_Own.c m v8 _ V9 (ro_of h_m_C (j := 0) rfl) c_m_C) ?_
          rintro _ _ ⟨a15, n15, H15, s15, rfl, rfl⟩
          refine atm_next (still_o [0, 0] rfl) ?_
          refine atm_two 8 9 (by kernel_rfl) ?_ ?_
          · obtain ⟨c10, Z3⟩ := chk_e Z3
            refine at_ap (k := k_api_Unit) (xs := ([] : List api_Unit)) T (g := 2) rfl rfl rfl rfl rfl rfl rfl rfl rfl rfl s14 (sub_r (ro_of h_l (j := 0) rfl) c4 c_l) c10 rfl (fun a16 n16 H16 s16 => ?_)
            refine atm_next (still_o [0, 0] rfl) ?_
            refine atm_one 9 (by kernel_rfl) ?_
            refine at_al T [(.int .i64 0), (.int .i64 0), (.slice none 0 0)] rfl rfl rfl rfl (fun b17 => ?_)
            refine atm_next (still_o [0, 0] rfl) ?_
            refine atm_one 10 (by kernel_rfl) ?_
            refine at_st T 4 [(.int .i64 v8.W), (.int .i64 v8.H), (.slice a15 (List.length v8.C) n15)] rfl rfl rfl rfl rfl rfl rfl rfl rfl rfl ?_
            refine atm_next (still_o [0, 0] rfl) ?_
            refine atm_s T 11 hg pf (by kernel_rfl) (still_o [0, 0] rfl) rfl ?_
            refine atm_end (by kernel_rfl) ?_
            refine at_sub [(2, (.slice a_k (List.length k) n_k)), (3, (.bool raw)), (4, (.pointer (some ⟨b1, 0, none⟩))), (9, (.pointer (some ⟨b17, 0, none⟩))), (10, (.slice a16 (List.length (([] : List api_Unit) ++ (sub' l 0 (if 12 < (List.length l : Int) then 12 else (List.length l : Int))))) n16))] ⟨rfl, rfl, rfl, rfl, rfl, trivial⟩ ?_
            refine at_then ?_
            obtain rfl := Option.some.inj Z3
            exact at_mid (v8.W, v8.H, v8.C, (([] : List api_Unit) ++ (sub' l 0 (if 12 < (List.length l : Int) then 12 else (List.length l : Int)))), b17, a15, n15, H15, a16, n16, H16) [0, 0, 2, 1, 0] ⟨rfl, s15, s16⟩ ⟨rfl, rfl, rfl, rfl, rfl, trivial⟩ rfl
          · refine at_al T [(.int .i64 0), (.int .i64 0), (.slice none 0 0)] rfl rfl rfl rfl (fun b18 => ?_)
            refine atm_next (still_o [0, 0] rfl) ?_
            refine atm_one 8 (by kernel_rfl) ?_
            obtain ⟨c11, Z3⟩ := chk_e Z3
            refine at_ap (k := k_api_Unit) (xs := ([] : List api_Unit)) T (g := 2) rfl rfl rfl rfl rfl rfl rfl rfl rfl rfl s14 (sub_r (ro_of h_l (j := 0) rfl) c4 c_l) c11 rfl (fun a19 n19 H19 s19 => ?_)
            refine atm_next (still_o [0, 0] rfl) ?_
            refine atm_one 10 (by kernel_rfl) ?_
            refine at_st T 4 [(.int .i64 v8.W), (.int .i64 v8.H), (.slice a15 (List.length v8.C) n15)] rfl rfl rfl rfl rfl rfl rfl rfl rfl rfl ?_
            refine atm_next (still_o [0, 0] rfl) ?_
            refine atm_s T 11 hg pf (by kernel_rfl) (still_o [0, 0] rfl) rfl ?_
            refine atm_end (by kernel_rfl) ?_
            refine at_sub [(2, (.slice a_k (List.length k) n_k)), (3, (.bool raw)), (4, (.pointer (some ⟨b1, 0, none⟩))), (9, (.pointer (some ⟨b18, 0, none⟩))), (10, (.slice a19 (List.length (([] : List api_Unit) ++ (sub' l 0 (if 12 < (List.length l : Int) then 12 else (List.length l : Int))))) n19))] ⟨rfl, rfl, rfl, rfl, rfl, trivial⟩ ?_
            refine at_then ?_
            obtain rfl := Option.some.inj Z3
            exact at_mid (v8.W, v8.H, v8.C, (([] : List api_Unit) ++ (sub' l 0 (if 12 < (List.length l : Int) then 12 else (List.length l : Int)))), b18, a15, n15, H15, a19, n19, H19) [0, 0, 2, 1, 0] ⟨rfl, s15, s19⟩ ⟨rfl, rfl, rfl, rfl, rfl, trivial⟩ rfl
        · refine at_al T [(.int .i64 0), (.int .i64 0), (.slice none 0 0)] rfl rfl rfl rfl (fun b20 => ?_)
          refine atm_next (still_o [0, 0] rfl) ?_
          refine atm_one 1 (by kernel_rfl) ?_
          obtain ⟨v9, V12, Z3⟩ := bind_e Z3
          refine at_cR (ref1_Own.R v9) [] [] rfl rfl rfl rfl has35 rfl rfl (ref1_Own.c m v9 _ V12 (ro_of h_m_C (j := 0) rfl) c_m_C) ?_
          rintro _ _ ⟨a21, n21, H21, s21, rfl, rfl⟩
          refine atm_next (still_o [0, 0] rfl) ?_
          refine atm_one 8 (by kernel_rfl) ?_
          obtain ⟨c13, Z3⟩ := chk_e Z3
          refine at_ap (k := k_api_Unit) (xs := ([] : List api_Unit)) T (g := 2) rfl rfl rfl rfl rfl rfl rfl rfl rfl rfl s14 (sub_r (ro_of h_l (j := 0) rfl) c4 c_l) c13 rfl (fun a22 n22 H22 s22 => ?_)
          refine atm_next (still_o [0, 0] rfl) ?_
          refine atm_one 10 (by kernel_rfl) ?_
          refine at_st T 3 [(.int .i64 v9.W), (.int .i64 v9.H), (.slice a21 (List.length v9.C) n21)] rfl rfl rfl rfl rfl rfl rfl rfl rfl rfl ?_
          refine atm_next (still_o [0, 0] rfl) ?_
          refine atm_s T 11 hg pf (by kernel_rfl) (still_o [0, 0] rfl) rfl ?_
          refine atm_end (by kernel_rfl) ?_
          refine at_sub [(2, (.slice a_k (List.length k) n_k)), (3, (.bool raw)), (4, (.pointer (some ⟨b1, 0, none⟩))), (9, (.pointer (some ⟨b20, 0, none⟩))), (10, (.slice a22 (List.length (([] : List api_Unit) ++ (sub' l 0 (if 12 < (List.length l : Int) then 12 else (List.length l : Int))))) n22))] ⟨rfl, rfl, rfl, rfl, rfl, trivial⟩ ?_
          refine at_then ?_
          obtain rfl := Option.some.inj Z3
          exact at_mid (v9.W, v9.H, v9.C, (([] : List api_Unit) ++ (sub' l 0 (if 12 < (List.length l : Int) then 12 else (List.length l : Int)))), b20, a21, n21, H21, a22, n22, H22) [0, 0, 1, 1, 0] ⟨rfl, s21, s22⟩ ⟨rfl, rfl, rfl, rfl, rfl, trivial⟩ rfl
      · refine at_al T [(.int .i64 0), (.int .i64 0), (.slice none 0 0)] rfl rfl rfl rfl (fun b23 => ?_)
        refine atm_next (still_o [0, 0] rfl) ?_
        refine atm_two 1 2 (by kernel_rfl) ?_ ?_
        · obtain ⟨v10, V14, Z3⟩ := bind_e Z3
          refine at_cR (ref1_Own.R v10) [] [] rfl rfl rfl rfl has35 rfl rfl (ref1_Own.c m v10 _ V14 (ro_of h_m_C (j := 0) rfl) c_m_C) ?_
          rintro _ _ ⟨a24, n24, H24, s24, rfl, rfl⟩
          refine atm_next (still_o [0, 0] rfl) ?_
          refine atm_one 2 (by kernel_rfl) ?_
          refine at_bs (k := k_api_Unit) T ([] : List api_Unit) rfl rfl rfl rfl rfl rfl rfl rfl rfl (fun a25 H25 s25 => ?_)
          refine atm_next (still_o [0, 0] rfl) ?_
          refine atm_one 8 (by kernel_rfl) ?_
          obtain ⟨c15, Z3⟩ := chk_e Z3
          refine at_ap (k := k_api_Unit) (xs := ([] : List api_Unit)) T (g := 4) rfl rfl rfl rfl rfl rfl rfl rfl rfl rfl s25 (sub_r (ro_of h_l (j := 0) rfl) c4 c_l) c15 rfl (fun a26 n26 H26 s26 => ?_)
          refine atm_next (still_o [0, 0] rfl) ?_
          refine atm_one 10 (by kernel_rfl) ?_
          refine at_st T 2 [(.int .i64 v10.W), (.int .i64 v10.H), (.slice a24 (List.length v10.C) n24)] rfl rfl rfl rfl rfl rfl rfl rfl rfl rfl ?_
          refine atm_next (still_o [0, 0] rfl) ?_
          refine atm_s T 11 hg pf (by kernel_rfl) (still_o [0, 0] rfl) rfl ?_
          refine atm_end (by kernel_rfl) ?_
          refine at_sub [(2, (.slice a_k (List.length k) n_k)), (3, (.bool raw)), (4, (.pointer (some ⟨b1, 0, none⟩))), (9, (.pointer (some ⟨b23, 0, none⟩))), (10, (.slice a26 (List.length (([] : List api_Unit) ++ (sub' l 0 (if 12 < (List.length l : Int) then 12 else (List.length l : Int))))) n26))] ⟨rfl, rfl, rfl, rfl, rfl, trivial⟩ ?_
          refine at_then ?_
          obtain rfl := Option.some.inj Z3
          exact at_mid (v10.W, v10.H, v10.C, (([] : List api_Unit) ++ (sub' l 0 (if 12 < (List.length l : Int) then 12 else (List.length l : Int)))), b23, a24, n24, H24, a26, n26, H26) [0, 0, 0, 0, 0] ⟨rfl, s24, s26⟩ ⟨rfl, rfl, rfl, rfl, rfl, trivial⟩ rfl
        · refine at_bs (k := k_api_Unit) T ([] : List api_Unit) rfl rfl rfl rfl rfl rfl rfl rfl rfl (fun a27 H27 s27 => ?_)
          refine atm_next (still_o [0, 0] rfl) ?_
          refine atm_one 1 (by kernel_rfl) ?_
          obtain ⟨v11, V16, Z3⟩ := bind_e Z3
          refine at_cR (ref1_Own.R v11) [] [] rfl rfl rfl rfl has35 rfl rfl (ref1_Own.c m v11 _ V16 (ro_of h_m_C (j := 0) rfl) c_m_C) ?_
          rintro _ _ ⟨a28, n28, H28, s28, rfl, rfl⟩
          refine atm_next (still_o [0, 0] rfl) ?_
          refine atm_one 8 (by kernel_rfl) ?_
          obtain ⟨c17, Z3⟩ := chk_e Z3
          refine at_ap (k := k_api_Unit) (xs := ([] : List api_Unit)) T (g := 3) rfl rfl rfl rfl rfl rfl rfl rfl rfl rfl s27 (sub_r (ro_of h_l (j := 0) rfl) c4 c_l) c17 rfl (fun a29 n29 H29 s29 => ?_)
          refine atm_next (still_o [0, 0] rfl) ?_
          refine atm_one 10 (by kernel_rfl) ?_
          refine at_st T 2 [(.int .i64 v11.W), (.int .i64 v11.H), (.slice a28 (List.length v11.C) n28)] rfl rfl rfl rfl rfl rfl rfl rfl rfl rfl ?_
          refine atm_next (still_o [0, 0] rfl) ?_
          refine atm_s T 11 hg pf (by kernel_rfl) (still_o [0, 0] rfl) rfl ?_
          refine atm_end (by kernel_rfl) ?_
          refine at_sub [(2, (.slice a_k (List.length k) n_k)), (3, (.bool raw)), (4, (.pointer (some ⟨b1, 0, none⟩))), (9, (.pointer (some ⟨b23, 0, none⟩))), (10, (.slice a29 (List.length (([] : List api_Unit) ++ (sub' l 0 (if 12 < (List.length l : Int) then 12 else (List.length l : Int))))) n29))] ⟨rfl, rfl, rfl, rfl, rfl, trivial⟩ ?_
          refine at_then ?_
          obtain rfl := Option.some.inj Z3
          exact at_mid (v11.W, v11.H, v11.C, (([] : List api_Unit) ++ (sub' l 0 (if 12 < (List.length l : Int) then 12 else (List.length l : Int)))), b23, a28, n28, H28, a29, n29, H29) [0, 0, 0, 1, 0] ⟨rfl, s28, s29⟩ ⟨rfl, rfl, rfl, rfl, rfl, trivial⟩ rfl
    · rintro ⟨x2, x3, x4, x5, b2, a3, n3, H3, a4, n4, H4⟩ ⟨rfl, s3, s4⟩
      obtain ⟨z16, Z18, H⟩ := bind_e H
      refine at_seq_mid (σ := Int × Int × List Int × List api_Unit × Option Addr × Nat × Hp × Option Addr × Nat × Hp) (fun ⟨x12, x13, x14, x15, a30, n30, H30, a31, n31, H31⟩ => (x12, x13, x14, x15) = z16 ∧ SliceO (Fl.int .u8) 5 x14 a30 n30 H30 ∧ SliceO k_api_Unit 72 x15 a31 n31 H31) (fun ⟨x12, x13, x14, x15, a30, n30, H30, a31, n31, H31⟩ => [(9, (.pointer (some ⟨b2, 0, none⟩))), (10, (.slice a31 (List.length x15) n31))]) (fun ⟨x12, x13, x14, x15, a30, n30, H30, a31, n31, H31⟩ => [F, [(b2, Obj.cells #[(.int .i64 x12), (.int .i64 x13), (.slice a30 (List.length x14) n30)] 24 (0, 0))], H30, H31]) ?_ ?_
      · refine at_seq ?_
        refine at_region [0, 1] rfl ?_
        iterate 2 refine at_s T rfl ?_
        refine at_end ?_
        refine at_sub [(2, (.slice a_k (List.length k) n_k)), (4, (.pointer (some ⟨b1, 0, none⟩))), (9, (.pointer (some ⟨b2, 0, none⟩))), (10, (.slice a4 (List.length x5) n4)), (31, (.bool (!raw)))] ⟨rfl, rfl, rfl, rfl, rfl, trivial⟩ ?_
        refine at_then ?_
        refine at_cond rfl (fun c19 => ?_) (fun c19 => ?_)
        · replace Z18 := if_t c19 Z18
          refine at_seq ?_
          refine at_region [0, 1, 2, 3, 4, 5, 6, 7] rfl ?_
          refine at_s T rfl ?_
          refine at_v rfl (g_load T rfl rfl rfl rfl (in_var (j := 1) rfl rfl)) ?_
          refine at_s T rfl ?_
          refine at_v rfl (g_load T rfl rfl rfl rfl (in_var (j := 1) rfl rfl)) ?_
          refine at_s T rfl ?_
          refine at_v rfl (g_load T rfl rfl rfl rfl (in_var (j := 1) rfl rfl)) ?_
          obtain ⟨v17, V20, Z18⟩ := bind_e Z18
          refine at_cons (at_cR (ref1_Made.R v17) [] [] rfl rfl rfl rfl has13 rfl rfl (ref1_Made.c m.W m.H m.C v17 _ V20 (ro_of h_m_C (j := 0) rfl) c_m_C) ?_)
          rintro _ _ ⟨a32, n32, H32, s32, rfl, rfl⟩
          refine at_cons (at_st T 2 [(.int .i64 v17.W), (.int .i64 v17.H), (.slice a32 (List.length v17.C) n32)] rfl rfl rfl rfl rfl rfl rfl rfl rfl rfl ?_)
          refine at_end ?_
          refine at_to [(2, (.slice a_k (List.length k) n_k)), (9, (.pointer (some ⟨b2, 0, none⟩))), (10, (.slice a4 (List.length x5) n4))] [0, 1, 2, 2] [F, [(b2, Obj.cells #[(.int .i64 v17.W), (.int .i64 v17.H), (.slice a32 (List.length v17.C) n32)] 24 (0, 0))], H4, H32] ⟨rfl, rfl, rfl, trivial⟩ rfl ?_
          refine at_then ?_
          refine at_seq ?_
          refine at_region_m [[], [0], [], [2], [], [0, 1, 2, 3, 4], [], [], [7], [7, 8], [6, 7, 8, 9], [0, 1, 2, 3, 4, 5, 6, 7, 8, 9, 10], [0, 1, 2, 3, 4, 5, 6, 7, 8, 9, 10, 11]] [] [F, [(b2, Obj.cells #[(.int .i64 v17.W), (.int .i64 v17.H), (.slice a32 (List.length v17.C) n32)] 24 (0, 0))], H4, H32] mix (by kernel_rfl) (by repeat first | exact pf_body | refine pf_then ?_ | refine pf_block ?_) (fun hg pf => ?_)
          refine atm_s T 0 hg pf (by kernel_rfl) (still_o [0, 0, 0, 0] rfl) rfl ?_
          refine atm_v 1 hg pf (by kernel_rfl) (still_o [0, 0, 0, 0] rfl) rfl rfl (g_load T rfl rfl rfl rfl (in_var (j := 1) rfl rfl)) ?_
          refine atm_s T 2 hg pf (by kernel_rfl) (still_o [0, 0, 0, 0] rfl) rfl ?_
          refine atm_v 3 hg pf (by kernel_rfl) (still_o [0, 0, 0, 0] rfl) rfl rfl (g_load T rfl rfl rfl rfl (in_var (j := 1) rfl rfl)) ?_
          refine atm_s T 4 hg pf (by kernel_rfl) (still_o [0, 0, 0, 0] rfl) rfl ?_
          refine atm_s T 6 hg pf (by kernel_rfl) (still_o [0, 0, 0, 0] rfl) rfl ?_
          refine atm_s T 7 hg pf (by kernel_rfl) (still_o [0, 0, 0, 0] rfl) rfl ?_
          refine atm_s T 8 hg pf (by kernel_rfl) (still_o [0, 0, 0, 0] rfl) rfl ?_
          refine atm_s T 9 hg pf (by kernel_rfl) (still_o [0, 0, 0, 0] rfl) rfl ?_
          obtain ⟨c21, Z18⟩ := chk_e Z18
          refine atm_v 10 hg pf (by kernel_rfl) (still_o [0, 0, 0, 0] rfl) rfl rfl (g_sub T rfl rfl rfl rfl rfl rfl c21 s4.cap_le) ?_
          refine atm_one 5 (by kernel_rfl) ?_
          obtain ⟨v18, V22, Z18⟩ := bind_e Z18
          refine at_cR (ref21_Made.R v18) [] [] rfl rfl rfl rfl has42 rfl rfl (ref21_Made.c v17.W v17.H k v18 _ V22 (ro_of h_k (j := 0) rfl) c_k) ?_
          rintro _ _ ⟨a33, n33, H33, s33, rfl, rfl⟩
          refine atm_next (still_o [0, 0, 0, 0] rfl) ?_
          refine atm_one 11 (by kernel_rfl) ?_
          obtain ⟨c23, Z18⟩ := chk_e Z18
          refine at_ap (k := k_api_Unit) (xs := v18) T (g := 4) rfl rfl rfl rfl rfl rfl rfl rfl rfl rfl s33 (sub_r (own_of s4 (j := 2) rfl) c21 s4.cap_le) c23 rfl (fun a34 n34 H34 s34 => ?_)
          refine atm_next (still_o [0, 0, 0, 0] rfl) ?_
          refine atm_s T 12 hg pf (by kernel_rfl) (still_o [0, 0, 0, 0] rfl) rfl ?_
          refine atm_end (by kernel_rfl) ?_
          refine at_to [(9, (.pointer (some ⟨b2, 0, none⟩))), (10, (.slice a34 (List.length (v18 ++ (sub' x5 0 (if 1 < (List.length x5 : Int) then 1 else (List.length x5 : Int))))) n34))] [0, 0, 1, 1] [F, [(b2, Obj.cells #[(.int .i64 v17.W), (.int .i64 v17.H), (.slice a32 (List.length v17.C) n32)] 24 (0, 0))], H32, H34] ⟨rfl, rfl, trivial⟩ rfl ?_
          refine at_then ?_
          refine at_seq ?_
          refine at_region [0, 1, 2] rfl ?_
          iterate 3 refine at_s T rfl ?_
          refine at_end ?_
          refine at_sub [(9, (.pointer (some ⟨b2, 0, none⟩))), (10, (.slice a34 (List.length (v18 ++ (sub' x5 0 (if 1 < (List.length x5 : Int) then 1 else (List.length x5 : Int))))) n34)), (53, (.bool (decide ((List.length (v18 ++ (sub' x5 0 (if 1 < (List.length x5 : Int) then 1 else (List.length x5 : Int)))) : Int) > 12))))] ⟨rfl, rfl, rfl, trivial⟩ ?_
          refine at_then ?_
          refine at_cond rfl (fun c24 => ?_) (fun c24 => ?_)
          · replace Z18 := if_t (of_decide_eq_true c24) Z18
            refine at_region [0, 1, 2] rfl ?_
            refine at_s T rfl ?_
            obtain ⟨c25, Z18⟩ := chk_e Z18
            refine at_v rfl (g_sub T rfl rfl rfl rfl rfl rfl c25 s34.cap_le) ?_
            refine at_s T rfl ?_
            refine at_end ?_
            refine at_sub [(9, (.pointer (some ⟨b2, 0, none⟩))), (10, (.slice (subA a34 n34 (Int.toNat 0) 3) (List.length (sub' (v18 ++ (sub' x5 0 (if 1 < (List.length x5 : Int) then 1 else (List.length x5 : Int)))) 0 12)) (n34 - Int.toNat 0)))] ⟨rfl, rfl, trivial⟩ ?_
            refine at_then ?_
            obtain rfl := Option.some.inj Z18
            exact at_mid (v17.W, v17.H, v17.C, (sub' (v18 ++ (sub' x5 0 (if 1 < (List.length x5 : Int) then 1 else (List.length x5 : Int)))) 0 12), a32, n32, H32, (subA a34 n34 (Int.toNat 0) 3), (n34 - Int.toNat 0), H34) [0, 0, 0, 0] ⟨rfl, s32, (SliceO.pre s34 c25)⟩ ⟨rfl, rfl, trivial⟩ rfl
          · replace Z18 := if_f (of_decide_eq_false c24) Z18
            refine at_skip ?_
            refine at_then ?_
            obtain rfl := Option.some.inj Z18
            exact at_mid (v17.W, v17.H, v17.C, (v18 ++ (sub' x5 0 (if 1 < (List.length x5 : Int) then 1 else (List.length x5 : Int)))), a32, n32, H32, a34, n34, H34) [0, 0, 0, 0] ⟨rfl, s32, s34⟩ ⟨rfl, rfl, trivial⟩ rfl
        · replace Z18 := if_f (bf c19) Z18
          refine at_skip ?_
          refine at_then ?_
          obtain rfl := Option.some.inj Z18
          exact at_mid (x2, x3, x4, x5, a3, n3, H3, a4, n4, H4) [0, 1, 1, 1] ⟨rfl, s3, s4⟩ ⟨rfl, rfl, trivial⟩ rfl
      · rintro ⟨x12, x13, x14, x15, a30, n30, H30, a31, n31, H31⟩ ⟨rfl, s30, s31⟩
        refine at_seq ?_
        refine at_region [0, 1, 2, 3, 4, 5, 6, 7] rfl ?_
        refine at_v rfl (g_loadA T (cs := [(.int .i64 x12), (.int .i64 x13), (.slice a30 (List.length x14) n30)]) rfl rfl rfl rfl rfl rfl (in_varA (j := 1) rfl rfl)) ?_
        refine at_s T rfl ?_
        obtain ⟨v19, V26, H⟩ := bind_e H
        refine at_cons (at_c (B := fun _ => []) [] rfl rfl rfl rfl has43 rfl rfl (trail_Rest.c (api_Map.mk x12 x13 x14) x15 v19 _ V26 (own_of s30 (j := 2) rfl) s30.cap_le (own_of s31 (j := 3) rfl) s31.cap_le) (fun _ => ?_))
        iterate 5 refine at_s T rfl ?_
        refine at_end ?_
        refine at_sub [(9, (.pointer (some ⟨b2, 0, none⟩))), (10, (.slice a31 (List.length x15) n31)), (11, (.int .i64 v19.1)), (12, (.bool v19.2))] ⟨rfl, rfl, rfl, rfl, trivial⟩ ?_
        refine at_then ?_
        refine at_seq ?_
        refine at_region [0, 1, 2, 3, 4, 5, 6, 7] rfl ?_
        refine at_v rfl (g_loadA T (cs := [(.int .i64 x12), (.int .i64 x13), (.slice a30 (List.length x14) n30)]) rfl rfl rfl rfl rfl rfl (in_varA (j := 1) rfl rfl)) ?_
        refine at_s T rfl ?_
        obtain ⟨v20, V27, H⟩ := bind_e H
        refine at_cons (at_c (B := fun _ => []) [] rfl rfl rfl rfl has44 rfl rfl (ref27_Rest.c (api_Map.mk x12 x13 x14) x15 v20 _ V27 (own_of s30 (j := 2) rfl) s30.cap_le (own_of s31 (j := 3) rfl) s31.cap_le) (fun _ => ?_))
        iterate 5 refine at_s T rfl ?_
        refine at_end ?_
        refine at_sub [(9, (.pointer (some ⟨b2, 0, none⟩))), (10, (.slice a31 (List.length x15) n31)), (11, (.int .i64 v19.1)), (12, (.bool v19.2)), (13, (.int .i64 v20.1)), (14, (.bool v20.2))] ⟨rfl, rfl, rfl, rfl, rfl, rfl, trivial⟩ ?_
        refine at_then ?_
        refine at_seq ?_
        refine at_region [0] rfl ?_
        refine at_s T rfl ?_
        refine at_end ?_
        refine at_sub [(9, (.pointer (some ⟨b2, 0, none⟩))), (10, (.slice a31 (List.length x15) n31)), (11, (.int .i64 v19.1)), (12, (.bool v19.2)), (13, (.int .i64 v20.1)), (14, (.bool v20.2)), (15, (.int .i64 (-1)))] ⟨rfl, rfl, rfl, rfl, rfl, rfl, rfl, trivial⟩ ?_
        refine at_then ?_
        obtain ⟨z23, Z28, H⟩ := bind_e H
        refine at_seq_mid (σ := Int × Int) (fun ⟨x21, x22⟩ => (x21, x22) = z23) (fun ⟨x21, x22⟩ => [(9, (.pointer (some ⟨b2, 0, none⟩))), (10, (.slice a31 (List.length x15) n31)), (11, (.int .i64 v19.1)), (12, (.bool v19.2)), (13, (.int .i64 x21)), (14, (.bool v20.2)), (15, (.int .i64 x22))]) (fun ⟨x21, x22⟩ => [F, [(b2, Obj.cells #[(.int .i64 x12), (.int .i64 x13), (.slice a30 (List.length x14) n30)] 24 (0, 0))], H30, H31]) ?_ ?_
        · refine at_seq ?_
          refine at_region [0] rfl ?_
          refine at_s T rfl ?_
          refine at_end ?_
          refine at_sub [(9, (.pointer (some ⟨b2, 0, none⟩))), (10, (.slice a31 (List.length x15) n31)), (11, (.int .i64 v19.1)), (12, (.bool v19.2)), (13, (.int .i64 v20.1)), (14, (.bool v20.2)), (15, (.int .i64 (-1))), (68, (.bool v20.2))] ⟨rfl, rfl, rfl, rfl, rfl, rfl, rfl, rfl, trivial⟩ ?_
          refine at_then ?_
          refine at_cond rfl (fun c29 => ?_) (fun c29 => ?_)
          · replace Z28 := if_t c29 Z28
            refine at_region [0, 1, 2, 3] rfl ?_
            refine at_v rfl (g_loadA T (cs := [(.int .i64 x12), (.int .i64 x13), (.slice a30 (List.length x14) n30)]) rfl rfl rfl rfl rfl rfl (in_varA (j := 1) rfl rfl)) ?_
            refine at_s T rfl ?_
            obtain ⟨v24, V30, Z28⟩ := bind_e Z28
            refine at_cons (at_c (B := fun _ => []) [] rfl rfl rfl rfl has45 rfl rfl (ref27_First.c (api_Map.mk x12 x13 x14) x15 v24 _ V30 (own_of s30 (j := 2) rfl) s30.cap_le (own_of s31 (j := 3) rfl) s31.cap_le) (fun _ => ?_))
            refine at_s T rfl ?_
            refine at_end ?_
            refine at_sub [(9, (.pointer (some ⟨b2, 0, none⟩))), (10, (.slice a31 (List.length x15) n31)), (11, (.int .i64 v19.1)), (12, (.bool v19.2)), (13, (.int .i64 v20.1)), (14, (.bool v20.2)), (15, (.int .i64 v24))] ⟨rfl, rfl, rfl, rfl, rfl, rfl, rfl, trivial⟩ ?_
            refine at_then ?_
            obtain rfl := Option.some.inj Z28
            exact at_mid (v20.1, v24) [0, 0, 0, 0] rfl ⟨rfl, rfl, rfl, rfl, rfl, rfl, rfl, trivial⟩ rfl
          · replace Z28 := if_f (bf c29) Z28
            refine at_region [0] rfl ?_
            refine at_s T rfl ?_
            refine at_end ?_
            refine at_sub [(9, (.pointer (some ⟨b2, 0, none⟩))), (10, (.slice a31 (List.length x15) n31)), (11, (.int .i64 v19.1)), (12, (.bool v19.2)), (13, (.int .i64 0)), (14, (.bool v20.2)), (15, (.int .i64 (-1)))] ⟨rfl, rfl, rfl, rfl, rfl, rfl, rfl, trivial⟩ ?_
            refine at_then ?_
            obtain rfl := Option.some.inj Z28
            exact at_mid (0, (-1)) [0, 0, 0, 0] rfl ⟨rfl, rfl, rfl, rfl, rfl, rfl, rfl, trivial⟩ rfl
        · rintro ⟨x21, x22⟩ rfl
          obtain ⟨z26, Z31, H⟩ := bind_e H
          refine at_seq_mid (σ := Bool) (fun x25 => x25 = z26) (fun x25 => [(8, (.bool x25))]) (fun x25 => [F]) ?_ ?_
          · refine at_region [0, 1, 2, 3, 4, 5, 6, 7, 8, 9, 10, 11, 12, 13, 14, 15, 16, 17, 18] rfl ?_
            obtain ⟨v27, V32, Z31⟩ := bind_e Z31
            refine at_cons (at_c (B := fun _ => []) [] rfl rfl rfl rfl has34 rfl rfl (law30_told.c  v27 _ V32) (fun _ => ?_))
            refine at_s T rfl ?_
            refine at_grp T [2, 3, 4, 5] (s := 73) (c := v27) [(9, (.pointer (some ⟨b2, 0, none⟩))), (10, (.slice a31 (List.length x15) n31)), (12, (.bool v19.2)), (14, (.bool v20.2)), (15, (.int .i64 x22)), (77, (.bool (v27 && (v19.1 == x21))))] rfl rfl rfl (fun c33 => ⟨rfl, rfl, rfl, rfl, rfl, (by rw [c33]; rfl), trivial⟩) (fun c33 => ⟨rfl, rfl, rfl, rfl, rfl, (by rw [c33]; rfl), trivial⟩) ?_
            refine at_s T rfl ?_
            refine at_grp T [7, 8, 9, 10] (s := 78) (c := (v27 && (v19.1 == x21))) [(9, (.pointer (some ⟨b2, 0, none⟩))), (10, (.slice a31 (List.length x15) n31)), (15, (.int .i64 x22)), (82, (.bool ((v27 && (v19.1 == x21)) && (v19.2 == v20.2))))] rfl rfl rfl (fun c34 => ⟨rfl, rfl, rfl, (by rw [c34]; rfl), trivial⟩) (fun c34 => ⟨rfl, rfl, rfl, (by rw [c34]; rfl), trivial⟩) ?_
            refine at_s T rfl ?_
            refine at_case (s := 83) rfl (fun c35 => ?_) (fun c35 => ?_)
            · replace Z31 := if_t c35 Z31
              refine at_v rfl (g_loadA T (cs := [(.int .i64 x12), (.int .i64 x13), (.slice a30 (List.length x14) n30)]) rfl rfl rfl rfl rfl rfl (in_varA (j := 1) rfl rfl)) ?_
              refine at_s T rfl ?_
              obtain ⟨v28, V36, Z31⟩ := bind_e Z31
              refine at_cons (at_c (B := fun _ => []) [] rfl rfl rfl rfl has46 rfl rfl (trail_First.c (api_Map.mk x12 x13 x14) x15 v28 _ V36 (own_of s30 (j := 2) rfl) s30.cap_le (own_of s31 (j := 3) rfl) s31.cap_le) (fun _ => ?_))
              iterate 4 refine at_s T rfl ?_
              refine at_end ?_
              refine at_to [(8, (.bool (v28 == x22)))] [0] [F] ⟨rfl, trivial⟩ rfl ?_
              refine at_then ?_
              obtain rfl := Option.some.inj Z31
              exact at_mid (v28 == x22) [0] rfl ⟨rfl, trivial⟩ rfl
            · replace Z31 := if_f (bf c35) Z31
              iterate 7 refine at_s T rfl ?_
              refine at_end ?_
              refine at_to [(8, (.bool false))] [0] [F] ⟨rfl, trivial⟩ rfl ?_
              refine at_then ?_
              obtain rfl := Option.some.inj Z31
              exact at_mid false [0] rfl ⟨rfl, trivial⟩ rfl
          · rintro x25 rfl
            refine at_ret ?_
            obtain rfl := Option.some.inj H
            exact at_post (T := T) rfl (.tmp rfl .nil) (fun w o => ⟨(), rfl, own_to [0] rfl o⟩)
def law30_TrailRest.Pure : Prop := ∀ (m : api_Map) (l : (List api_Unit)) (k : (List Int)) (raw : Bool), (inI64 m.W ∧ inI64 m.H ∧ (∀ y ∈ m.C, inU8 y)) → (∀ y ∈ l, (inI64 y.Id ∧ inI64 y.Cell ∧ inI64 y.Goal)) → (∀ y ∈ k, inI64 y) → List.length m.C ≤ 9223372036854775807 → List.length l ≤ 9223372036854775807 → List.length k ≤ 9223372036854775807 → law30_TrailRest.f m l k raw = some true
end

end Go.Proofs.Yticdodeoljodiaa
