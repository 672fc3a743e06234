import Derived.Test.YtnkdnecilkafhaaDoorT
import Derived.Test.YtnkdnecilkafhaaDoorFmath
namespace Go.Proofs.YtnkdnecilkafhaaDoor
open Go.Hx
set_option maxRecDepth 100000
set_option linter.unusedVariables false
noncomputable section
/-! ### bytes.Repeat: function 75 -/
def bytes_Repeat.l0 : Nat → (Int × Int) → Int → List Int → Int → Option (List Int)
  | 0, _, _, _, _ => none
  | k11 + 1, v1, x2, x9, x10 => if x10 < (w64 v1.2) then (if (0 ≤ x10 ∧ x10 ≤ (List.length x9 : Int) ∧ (List.length x9 : Int) ≤ (List.length x9 : Int)) then (if (0 ≤ (0 : Int) ∧ (0 : Int) ≤ (if x2 < x10 then x2 else x10) ∧ (if x2 < x10 then x2 else x10) ≤ (List.length x9 : Int)) then (bytes_Repeat.l0 k11 v1 x2 (cpy x9 (Int.toNat x10) (min (List.length (sub' x9 0 (if x2 < x10 then x2 else x10))) (List.length (sub' x9 x10 (List.length x9 : Int)))) (sub' x9 0 (if x2 < x10 then x2 else x10))) (w64 (x10 + (((min (List.length (sub' x9 0 (if x2 < x10 then x2 else x10))) (List.length (sub' x9 x10 (List.length x9 : Int)))) : Nat) : Int)))) else none) else none) else (some x9)
def bytes_Repeat.f (b : (List Int)) (count : Int) : Option (List Int) := if (count == 0) = true then (some ([] : List Int)) else (if count < 0 then (none) else ((math_bits_Mul.f (wu64 (List.length b : Int)) (wu64 count)).bind fun v1 => if ((decide (v1.1 > 0)) || (decide (v1.2 > 9223372036854775807))) = true then (none) else (if ((List.length b : Int) == 0) = true then (some ([] : List Int)) else ((if (w64 v1.2) > 8192 then (if (¬ (List.length b : Int) = 0) then (if ((w64 ((w64 (Int.tdiv 8192 (List.length b : Int))) * (List.length b : Int))) == 0) = true then (some (List.length b : Int)) else (some (w64 ((w64 (Int.tdiv 8192 (List.length b : Int))) * (List.length b : Int))))) else none) else (some (w64 v1.2))).bind fun x2 => if (0 ≤ (w64 v1.2) ∧ (w64 v1.2) ≤ 1099511627776) then (anyL (nzP (w64 v1.2)) (fun x4 => if ((w64 v1.2) = (List.length x4 : Int)) then ((bytes_Repeat.l0 fuel v1 x2 (cpy x4 0 (min (List.length b) (List.length x4)) b) (((min (List.length b) (List.length x4)) : Nat) : Int)).bind fun x5 => some x5) else none)) else none))))
def bytes_Repeat.R (r : (List Int)) (u : Value) (G : List Hp) : Prop := ∃ (a0 : Option Addr) (n0 : Nat) (H0 : Hp), SliceO (Fl.int .u8) 5 r a0 n0 H0 ∧ u = (.slice a0 (List.length r) n0) ∧ G = [H0]
set_option maxHeartbeats 4000000 in
theorem bytes_Repeat.c {a_b : Option Addr} {n_b : Nat} (b : (List Int)) (count : Int) (r : (List Int)) (F : Hp) (H : bytes_Repeat.f b count = some r) (h_b : SliceR (Fl.int .u8) b a_b F) (c_b : List.length b ≤ n_b) :
    CallsL Tryd.prog 75 [(.slice a_b (List.length b) n_b), (.int .i64 count)] [F] (fun qp : { qp : Value × List Hp // bytes_Repeat.R r qp.1 qp.2 } => qp.1.1) (fun qp => (qp.1.2 ++ []) ++ [F]) := by
  unfold bytes_Repeat.f at H
  refine calls_atL [(0, (.slice a_b (List.length b) n_b)), (1, (.int .i64 count))] Tryd.func75 rfl rfl ⟨rfl, rfl, trivial⟩ (fun W => ?_)
  refine at_seq ?_
  refine at_region [0] rfl ?_
  refine at_s T rfl ?_
  refine at_end ?_
  refine at_sub [(0, (.slice a_b (List.length b) n_b)), (1, (.int .i64 count))] ⟨rfl, rfl, trivial⟩ ?_
  refine at_then ?_
  refine at_seq ?_
  refine at_seq ?_
  refine at_region [0, 1] rfl ?_
  iterate 2 refine at_s T rfl ?_
  refine at_end ?_
  refine at_sub [(0, (.slice a_b (List.length b) n_b)), (1, (.int .i64 count)), (13, (.bool (count == 0)))] ⟨rfl, rfl, rfl, trivial⟩ ?_
  refine at_then ?_
  refine at_cond rfl (fun c1 => ?_) (fun c1 => ?_)
  · replace H := if_t c1 H
    refine at_seq ?_
    refine at_region [0, 1] rfl ?_
    refine at_cons (at_bs (k := (Fl.int .u8)) T ([] : List Int) rfl rfl rfl rfl rfl rfl rfl rfl rfl (fun a1 H1 s1 => ?_))
    refine at_s T rfl ?_
    refine at_end ?_
    refine at_sub [(4, (.slice a1 (List.length ([] : List Int)) (List.length ([] : List Int))))] ⟨rfl, trivial⟩ ?_
    refine at_then ?_
    refine at_ret ?_
    refine at_rt ?_
    obtain rfl := Option.some.inj H
    exact at_post (T := T) rfl (.tmp rfl .nil) (fun w o => ⟨⟨(_, _), ⟨a1, (List.length ([] : List Int)), H1, s1, rfl, rfl⟩⟩, rfl, own_to [1, 0] rfl o⟩)
  · replace H := if_f (bf c1) H
    refine at_skip ?_
    refine at_then ?_
    refine at_seq ?_
    refine at_seq ?_
    refine at_region [0, 1] rfl ?_
    iterate 2 refine at_s T rfl ?_
    refine at_end ?_
    refine at_sub [(0, (.slice a_b (List.length b) n_b)), (1, (.int .i64 count)), (16, (.bool (decide (count < 0))))] ⟨rfl, rfl, rfl, trivial⟩ ?_
    refine at_then ?_
    refine at_cond rfl (fun c2 => ?_) (fun c2 => ?_)
    · replace H := if_t (of_decide_eq_true c2) H
      cases H
    · replace H := if_f (of_decide_eq_false c2) H
      refine at_skip ?_
      refine at_then ?_
      refine at_seq ?_
      refine at_region [0, 1, 2, 3, 4, 5, 6, 7, 8, 9, 10] rfl ?_
      iterate 5 refine at_s T rfl ?_
      obtain ⟨v1, V3, H⟩ := bind_e H
      refine at_cons (at_c (B := fun _ => []) [] rfl rfl rfl rfl has79 rfl rfl (math_bits_Mul.c (wu64 (List.length b : Int)) (wu64 count) v1 _ V3) (fun _ => ?_))
      iterate 5 refine at_s T rfl ?_
      refine at_end ?_
      refine at_sub [(0, (.slice a_b (List.length b) n_b)), (5, (.int .u64 v1.1)), (6, (.int .u64 v1.2))] ⟨rfl, rfl, rfl, trivial⟩ ?_
      refine at_then ?_
      refine at_seq ?_
      refine at_seq ?_
      refine at_region [0, 1, 2, 3, 4, 5] rfl ?_
      iterate 3 refine at_s T rfl ?_
      refine at_grp T [3, 4, 5] (s := 29) (c := (decide (v1.1 > 0))) [(0, (.slice a_b (List.length b) n_b)), (6, (.int .u64 v1.2)), (32, (.bool ((decide (v1.1 > 0)) || (decide (v1.2 > 9223372036854775807)))))] rfl rfl rfl (fun c4 => ⟨rfl, rfl, (by rw [c4]; rfl), trivial⟩) (fun c4 => ⟨rfl, rfl, (by rw [c4]; rfl), trivial⟩) ?_
      refine at_end ?_
      refine at_sub [(0, (.slice a_b (List.length b) n_b)), (6, (.int .u64 v1.2)), (32, (.bool ((decide (v1.1 > 0)) || (decide (v1.2 > 9223372036854775807)))))] ⟨rfl, rfl, rfl, trivial⟩ ?_
      refine at_then ?_
      refine at_cond rfl (fun c5 => ?_) (fun c5 => ?_)
      · replace H := if_t c5 H
        cases H
      · replace H := if_f (bf c5) H
        refine at_skip ?_
        refine at_then ?_
        refine at_seq ?_
        refine at_region [0, 1, 2] rfl ?_
        iterate 3 refine at_s T rfl ?_
        refine at_end ?_
        refine at_sub [(0, (.slice a_b (List.length b) n_b)), (7, (.int .i64 (w64 v1.2)))] ⟨rfl, rfl, trivial⟩ ?_
        refine at_then ?_
        refine at_seq ?_
        refine at_seq ?_
        refine at_region [0, 1, 2] rfl ?_
        iterate 3 refine at_s T rfl ?_
        refine at_end ?_
        refine at_sub [(0, (.slice a_b (List.length b) n_b)), (7, (.int .i64 (w64 v1.2))), (38, (.bool ((List.length b : Int) == 0)))] ⟨rfl, rfl, rfl, trivial⟩ ?_
        refine at_then ?_
        refine at_cond rfl (fun c6 => ?_) (fun c6 => ?_)
        · replace H := if_t c6 H
          refine at_seq ?_
          refine at_region [0, 1] rfl ?_
          refine at_cons (at_bs (k := (Fl.int .u8)) T ([] : List Int) rfl rfl rfl rfl rfl rfl rfl rfl rfl (fun a2 H2 s2 => ?_))
          refine at_s T rfl ?_
          refine at_end ?_
          refine at_sub [(4, (.slice a2 (List.length ([] : List Int)) (List.length ([] : List Int))))] ⟨rfl, trivial⟩ ?_
          refine at_then ?_
          refine at_ret ?_
          refine at_rt ?_
          obtain rfl := Option.some.inj H
          exact at_post (T := T) rfl (.tmp rfl .nil) (fun w o => ⟨⟨(_, _), ⟨a2, (List.length ([] : List Int)), H2, s2, rfl, rfl⟩⟩, rfl, own_to [1, 0] rfl o⟩)
        · replace H := if_f (bf c6) H
          refine at_skip ?_
          refine at_then ?_
          refine at_seq ?_
          refine at_region [0, 1] rfl ?_
          iterate 2 refine at_s T rfl ?_
          refine at_end ?_
          refine at_sub [(0, (.slice a_b (List.length b) n_b)), (7, (.int .i64 (w64 v1.2))), (8, (.int .i64 (w64 v1.2)))] ⟨rfl, rfl, rfl, trivial⟩ ?_
          refine at_then ?_
          obtain ⟨z3, Z7, H⟩ := bind_e H
          refine at_seq_mid (σ := Int) (fun x2 => x2 = z3) (fun x2 => [(0, (.slice a_b (List.length b) n_b)), (7, (.int .i64 (w64 v1.2))), (8, (.int .i64 x2))]) (fun x2 => [F]) ?_ ?_
          · refine at_seq ?_
            refine at_region [0, 1] rfl ?_
            iterate 2 refine at_s T rfl ?_
            refine at_end ?_
            refine at_sub [(0, (.slice a_b (List.length b) n_b)), (7, (.int .i64 (w64 v1.2))), (8, (.int .i64 (w64 v1.2))), (42, (.bool (decide ((w64 v1.2) > 8192))))] ⟨rfl, rfl, rfl, rfl, trivial⟩ ?_
            refine at_then ?_
            refine at_cond rfl (fun c8 => ?_) (fun c8 => ?_)
            · replace Z7 := if_t (of_decide_eq_true c8) Z7
              refine at_seq ?_
              refine at_region [0, 1, 2, 3, 4, 5, 6] rfl ?_
              iterate 2 refine at_s T rfl ?_
              obtain ⟨c9, Z7⟩ := chk_e Z7
              refine at_v rfl (g_quo rfl rfl rfl c9) ?_
              iterate 4 refine at_s T rfl ?_
              refine at_end ?_
              refine at_sub [(0, (.slice a_b (List.length b) n_b)), (7, (.int .i64 (w64 v1.2))), (8, (.int .i64 (w64 ((w64 (Int.tdiv 8192 (List.length b : Int))) * (List.length b : Int)))))] ⟨rfl, rfl, rfl, trivial⟩ ?_
              refine at_then ?_
              refine at_seq ?_
              refine at_region [0, 1] rfl ?_
              iterate 2 refine at_s T rfl ?_
              refine at_end ?_
              refine at_sub [(0, (.slice a_b (List.length b) n_b)), (7, (.int .i64 (w64 v1.2))), (8, (.int .i64 (w64 ((w64 (Int.tdiv 8192 (List.length b : Int))) * (List.length b : Int))))), (50, (.bool ((w64 ((w64 (Int.tdiv 8192 (List.length b : Int))) * (List.length b : Int))) == 0)))] ⟨rfl, rfl, rfl, rfl, trivial⟩ ?_
              refine at_then ?_
              refine at_cond rfl (fun c10 => ?_) (fun c10 => ?_)
              · replace Z7 := if_t c10 Z7
                refine at_region [0, 1, 2] rfl ?_
                iterate 3 refine at_s T rfl ?_
                refine at_end ?_
                refine at_sub [(0, (.slice a_b (List.length b) n_b)), (7, (.int .i64 (w64 v1.2))), (8, (.int .i64 (List.length b : Int)))] ⟨rfl, rfl, rfl, trivial⟩ ?_
                refine at_then ?_
                obtain rfl := Option.some.inj Z7
                exact at_mid (List.length b : Int) [0] rfl ⟨rfl, rfl, rfl, trivial⟩ rfl
              · replace Z7 := if_f (bf c10) Z7
                refine at_skip ?_
                refine at_then ?_
                obtain rfl := Option.some.inj Z7
                exact at_mid (w64 ((w64 (Int.tdiv 8192 (List.length b : Int))) * (List.length b : Int))) [0] rfl ⟨rfl, rfl, rfl, trivial⟩ rfl
            · replace Z7 := if_f (of_decide_eq_false c8) Z7
              refine at_skip ?_
              refine at_then ?_
              obtain rfl := Option.some.inj Z7
              exact at_mid (w64 v1.2) [0] rfl ⟨rfl, rfl, rfl, trivial⟩ rfl
          · rintro x2 rfl
            refine at_seq ?_
            refine at_region [0, 1, 2, 3, 4, 5] rfl ?_
            refine at_s T rfl ?_
            obtain ⟨c11, H⟩ := chk_e H
            refine at_cons (at_mknz T rfl rfl rfl rfl isNZ rfl c11 (fun x4 a3 n3 H3 p3_ s3 => ?_))
            replace H := anyL_e H p3_
            iterate 2 refine at_s T rfl ?_
            obtain ⟨c12, H⟩ := chk_e H
            refine at_v rfl (g_sub3 T rfl rfl rfl rfl rfl rfl c12 s3.cap_le) ?_
            refine at_s T rfl ?_
            refine at_end ?_
            refine at_sub [(0, (.slice a_b (List.length b) n_b)), (7, (.int .i64 (w64 v1.2))), (8, (.int .i64 x2)), (9, (.slice a3 (List.length x4) (List.length x4)))] ⟨rfl, rfl, rfl, rfl, trivial⟩ ?_
            refine at_then ?_
            refine at_seq ?_
            refine at_region [0, 1, 2, 3] rfl ?_
            iterate 2 refine at_s T rfl ?_
            have L13 : 0 + (List.length x4) ≤ List.length x4 := (fit0 _)
            refine at_cons (at_cp (k := (Fl.int .u8)) (xs := x4) (ys := b) (lo := 0) (g := 1) T rfl rfl rfl rfl rfl rfl rfl rfl (SliceO.trim s3 (Nat.le_refl _) s3.cap_le) (ro_of h_b (j := 0) rfl) (.inl ⟨rfl, rfl⟩) L13 (fun H4 s4 => ?_))
            refine at_to [(7, (.int .i64 (w64 v1.2))), (8, (.int .i64 x2)), (9, (.slice a3 (List.length (cpy x4 0 (min (List.length b) (List.length x4)) b)) (List.length x4))), (60, (.int .i64 (((min (List.length b) (List.length x4)) : Nat) : Int)))] [0, 0] [F, H4] ⟨rfl, rfl, (by first | rfl | (simp only [cpy_len L13]; rfl)), rfl, trivial⟩ rfl ?_
            refine at_s T rfl ?_
            refine at_end ?_
            refine at_sub [(7, (.int .i64 (w64 v1.2))), (8, (.int .i64 x2)), (9, (.slice a3 (List.length (cpy x4 0 (min (List.length b) (List.length x4)) b)) (List.length x4))), (10, (.int .i64 (((min (List.length b) (List.length x4)) : Nat) : Int)))] ⟨rfl, rfl, rfl, rfl, trivial⟩ ?_
            refine at_then ?_
            obtain ⟨z6, Z14, H⟩ := bind_e H
            refine at_seq_mid (σ := List Int × Option Addr × Nat × Hp) (fun ⟨x5, a5, n5, H5⟩ => x5 = z6 ∧ SliceO (Fl.int .u8) 5 x5 a5 n5 H5) (fun ⟨x5, a5, n5, H5⟩ => [(9, (.slice a5 (List.length x5) n5))]) (fun ⟨x5, a5, n5, H5⟩ => [F, H5]) ?_ ?_
            · refine at_block ?_
              refine at_loopL (σ := Nat × List Int × Int × Option Addr × Nat × Hp) (fun ⟨k11, x9, x10, a7, n7, H7⟩ => bytes_Repeat.l0 k11 v1 x2 x9 x10 = some z6 ∧ SliceO (Fl.int .u8) 5 x9 a7 n7 H7) (fun ⟨k11, x9, x10, a7, n7, H7⟩ => [(7, (.int .i64 (w64 v1.2))), (8, (.int .i64 x2)), (9, (.slice a7 (List.length x9) n7)), (10, (.int .i64 x10))]) (fun ⟨k11, x9, x10, a7, n7, H7⟩ => [F, H7]) (fun s => s.1) (fuel, (cpy x4 0 (min (List.length b) (List.length x4)) b), (((min (List.length b) (List.length x4)) : Nat) : Int), a3, (List.length x4), H4) [0, 0] ⟨Z14, s4⟩ ⟨rfl, rfl, rfl, rfl, trivial⟩ rfl ?_
              rintro ⟨k11, x9, x10, a7, n7, H7⟩ ⟨Z15, s7⟩
              replace Z15 : bytes_Repeat.l0 k11 v1 x2 x9 x10 = some z6 := Z15
              rcases k11 with _ | k11
              · rw [bytes_Repeat.l0] at Z15; cases Z15
              · rw [bytes_Repeat.l0] at Z15
                refine at_seq ?_
                refine at_seq ?_
                refine at_region [0, 1, 2] rfl ?_
                iterate 3 refine at_s T rfl ?_
                refine at_end ?_
                refine at_sub [(7, (.int .i64 (w64 v1.2))), (8, (.int .i64 x2)), (9, (.slice a7 (List.length x9) n7)), (10, (.int .i64 x10)), (63, (.bool (decide (x10 < (w64 v1.2)))))] ⟨rfl, rfl, rfl, rfl, rfl, trivial⟩ ?_
                refine at_then ?_
                refine at_cond rfl (fun c16 => ?_) (fun c16 => ?_)
                · replace Z15 := if_t (of_decide_eq_true c16) Z15
                  refine at_skip ?_
                  refine at_then ?_
                  refine at_block ?_
                  refine at_seq ?_
                  refine at_region [0, 1, 2, 3] rfl ?_
                  iterate 4 refine at_s T rfl ?_
                  refine at_end ?_
                  refine at_sub [(7, (.int .i64 (w64 v1.2))), (8, (.int .i64 x2)), (9, (.slice a7 (List.length x9) n7)), (10, (.int .i64 x10)), (11, (.int .i64 (if x2 < x10 then x2 else x10)))] ⟨rfl, rfl, rfl, rfl, rfl, trivial⟩ ?_
                  refine at_then ?_
                  refine at_region_m [[], [], [], [1, 2], [], [], [4, 5], [1, 2, 3, 4, 5, 6], [0, 1, 2, 3, 4, 5, 6, 7], [0, 1, 2, 3, 4, 5, 6, 7, 8]] [7] [F, H7] mix (by kernel_rfl) (by repeat first | exact pf_body | refine pf_then ?_ | refine pf_block ?_) (fun hg pf => ?_)
                  refine atm_s T 0 hg pf (by kernel_rfl) (still_o [0, 0] rfl) rfl ?_
                  refine atm_s T 1 hg pf (by kernel_rfl) (still_o [0, 0] rfl) rfl ?_
                  refine atm_s T 2 hg pf (by kernel_rfl) (still_o [0, 0] rfl) rfl ?_
                  obtain ⟨c17, Z15⟩ := chk_e Z15
                  refine atm_v 3 hg pf (by kernel_rfl) (still_o [0, 0] rfl) rfl rfl (g_sub T rfl rfl rfl rfl rfl rfl c17 s7.cap_le) ?_
                  refine atm_s T 4 hg pf (by kernel_rfl) (still_o [0, 0] rfl) rfl ?_
                  refine atm_s T 5 hg pf (by kernel_rfl) (still_o [0, 0] rfl) rfl ?_
                  obtain ⟨c18, Z15⟩ := chk_e Z15
                  refine atm_v 6 hg pf (by kernel_rfl) (still_o [0, 0] rfl) rfl rfl (g_sub T rfl rfl rfl rfl rfl rfl c18 s7.cap_le) ?_
                  refine atm_one 7 (by kernel_rfl) ?_
                  have L19 : (Int.toNat x10) + (List.length (sub' x9 x10 (List.length x9 : Int))) ≤ List.length x9 := (sub_fit c17)
                  refine at_cp (k := (Fl.int .u8)) (xs := x9) (ys := (sub' x9 0 (if x2 < x10 then x2 else x10))) (lo := (Int.toNat x10)) (g := 1) T rfl rfl rfl rfl rfl rfl rfl rfl s7 (sub_r (own_of s7 (j := 1) rfl) c18 s7.cap_le) (.inr rfl) L19 (fun H8 s8 => ?_)
                  refine at_to [(7, (.int .i64 (w64 v1.2))), (8, (.int .i64 x2)), (9, (.slice a7 (List.length (cpy x9 (Int.toNat x10) (min (List.length (sub' x9 0 (if x2 < x10 then x2 else x10))) (List.length (sub' x9 x10 (List.length x9 : Int)))) (sub' x9 0 (if x2 < x10 then x2 else x10)))) n7)), (10, (.int .i64 x10)), (11, (.int .i64 (if x2 < x10 then x2 else x10))), (67, (.int .i64 x10)), (68, (.slice a7 (List.length (cpy x9 (Int.toNat x10) (min (List.length (sub' x9 0 (if x2 < x10 then x2 else x10))) (List.length (sub' x9 x10 (List.length x9 : Int)))) (sub' x9 0 (if x2 < x10 then x2 else x10)))) n7)), (69, (.int .i64 x10)), (70, (.slice (subA a7 n7 (Int.toNat x10) 1) (List.length (sub' x9 x10 (List.length x9 : Int))) (n7 - Int.toNat x10))), (71, (.slice a7 (List.length (cpy x9 (Int.toNat x10) (min (List.length (sub' x9 0 (if x2 < x10 then x2 else x10))) (List.length (sub' x9 x10 (List.length x9 : Int)))) (sub' x9 0 (if x2 < x10 then x2 else x10)))) n7)), (72, (.int .i64 (if x2 < x10 then x2 else x10))), (73, (.slice (subA a7 n7 (Int.toNat 0) 1) (List.length (sub' x9 0 (if x2 < x10 then x2 else x10))) (n7 - Int.toNat 0))), (74, (.int .i64 (((min (List.length (sub' x9 0 (if x2 < x10 then x2 else x10))) (List.length (sub' x9 x10 (List.length x9 : Int)))) : Nat) : Int)))] [0, 0] [F, H8] ⟨rfl, rfl, (by first | rfl | (simp only [cpy_len L19]; rfl)), rfl, rfl, rfl, (by first | rfl | (simp only [cpy_len L19]; rfl)), rfl, rfl, (by first | rfl | (simp only [cpy_len L19]; rfl)), rfl, rfl, rfl, trivial⟩ rfl ?_
                  refine atm_next (still_l (by kernel_rfl)) ?_
                  refine atm_s T 8 hg pf (by kernel_rfl) (still_l (by kernel_rfl)) rfl ?_
                  refine atm_s T 9 hg pf (by kernel_rfl) (still_l (by kernel_rfl)) rfl ?_
                  refine atm_end (by kernel_rfl) ?_
                  refine at_sub [(7, (.int .i64 (w64 v1.2))), (8, (.int .i64 x2)), (9, (.slice a7 (List.length (cpy x9 (Int.toNat x10) (min (List.length (sub' x9 0 (if x2 < x10 then x2 else x10))) (List.length (sub' x9 x10 (List.length x9 : Int)))) (sub' x9 0 (if x2 < x10 then x2 else x10)))) n7)), (10, (.int .i64 (w64 (x10 + (((min (List.length (sub' x9 0 (if x2 < x10 then x2 else x10))) (List.length (sub' x9 x10 (List.length x9 : Int)))) : Nat) : Int)))))] ⟨rfl, rfl, rfl, rfl, trivial⟩ ?_
                  refine at_nb ?_
                  refine at_then ?_
                  exact at_roundL (k11, (cpy x9 (Int.toNat x10) (min (List.length (sub' x9 0 (if x2 < x10 then x2 else x10))) (List.length (sub' x9 x10 (List.length x9 : Int)))) (sub' x9 0 (if x2 < x10 then x2 else x10))), (w64 (x10 + (((min (List.length (sub' x9 0 (if x2 < x10 then x2 else x10))) (List.length (sub' x9 x10 (List.length x9 : Int)))) : Nat) : Int))), a7, n7, H8) [0, 0] ⟨Z15, s8⟩ (Nat.lt_succ_self _) ⟨rfl, rfl, rfl, rfl, trivial⟩ rfl
                · replace Z15 := if_f (of_decide_eq_false c16) Z15
                  refine at_exit ?_
                  refine at_xt ?_
                  refine at_xt ?_
                  refine at_xb ?_
                  refine at_then ?_
                  obtain rfl := Option.some.inj Z15
                  exact at_mid (x9, a7, n7, H7) [0, 0] ⟨rfl, s7⟩ ⟨rfl, trivial⟩ rfl
            · rintro ⟨x5, a5, n5, H5⟩ ⟨rfl, s5⟩
              refine at_seq ?_
              refine at_region [0, 1] rfl ?_
              iterate 2 refine at_s T rfl ?_
              refine at_end ?_
              refine at_sub [(4, (.slice a5 (List.length x5) n5))] ⟨rfl, trivial⟩ ?_
              refine at_then ?_
              refine at_ret ?_
              obtain rfl := Option.some.inj H
              exact at_post (T := T) rfl (.tmp rfl .nil) (fun w o => ⟨⟨(_, _), ⟨a5, n5, H5, s5, rfl, rfl⟩⟩, rfl, own_to [1, 0] rfl o⟩)

/-! ### bytes.Equal: function 41 -/
def bytes_Equal.f (a : (List Int)) (b : (List Int)) : Option Bool := some (strEq a b)
set_option maxHeartbeats 4000000 in
theorem bytes_Equal.c {a_a : Option Addr} {n_a : Nat} {a_b : Option Addr} {n_b : Nat} (a : (List Int)) (b : (List Int)) (r : Bool) (F : Hp) (H : bytes_Equal.f a b = some r) (h_a : SliceR (Fl.int .u8) a a_a F) (c_a : List.length a ≤ n_a) (h_b : SliceR (Fl.int .u8) b a_b F) (c_b : List.length b ≤ n_b) :
    CallsL Tryd.prog 41 [(.slice a_a (List.length a) n_a), (.slice a_b (List.length b) n_b)] [F] (fun _ : Unit => (.bool r)) (fun _ => [F]) := by
  unfold bytes_Equal.f at H
  refine calls_atL [(0, (.slice a_a (List.length a) n_a)), (1, (.slice a_b (List.length b) n_b))] Tryd.func41 rfl rfl ⟨rfl, rfl, trivial⟩ (fun W => ?_)
  refine at_seq ?_
  refine at_region [0] rfl ?_
  refine at_s T rfl ?_
  refine at_end ?_
  refine at_sub [(0, (.slice a_a (List.length a) n_a)), (1, (.slice a_b (List.length b) n_b))] ⟨rfl, rfl, trivial⟩ ?_
  refine at_then ?_
  refine at_seq ?_
  refine at_region [0, 1, 2, 3, 4, 5] rfl ?_
  refine at_s T rfl ?_
  refine at_v rfl (g_tostr T rfl rfl rfl rfl rfl (ro_of h_a (j := 0) rfl)) ?_
  refine at_s T rfl ?_
  refine at_v rfl (g_tostr T rfl rfl rfl rfl rfl (ro_of h_b (j := 0) rfl)) ?_
  refine at_v rfl (g_streq rfl rfl rfl) ?_
  refine at_s T rfl ?_
  refine at_end ?_
  refine at_sub [(4, (.bool (strEq a b)))] ⟨rfl, trivial⟩ ?_
  refine at_then ?_
  refine at_ret ?_
  obtain rfl := Option.some.inj H
  exact at_post (T := T) rfl (.tmp rfl .nil) (fun w o => ⟨(), rfl, own_to [0] rfl o⟩)
end

end Go.Proofs.YtnkdnecilkafhaaDoor
