import Derived.Test.YtmddmofncblfpaaT
import Derived.Test.YtmddmofncblfpaaFlaw23
import Derived.Test.YtmddmofncblfpaaFplan
import Derived.Test.YtmddmofncblfpaaFref1
import Derived.Test.YtmddmofncblfpaaFref21
namespace Go.Proofs.Ytmddmofncblfpaa
open Go.Hx
set_option maxRecDepth 100000
set_option linter.unusedVariables false
/-! ### herdsman/herdsmanlaw23.PlanTurned: function 12 -/
def law23_PlanTurned.f (w : Int) (h : Int) (k : (List Int)) (p3 : Int) (how : Int) (p5 : Int) : Option Bool := (ref1_Within.f w 1 60).bind fun v1 => (ref1_Within.f h 1 60).bind fun v2 => (ref21_Made.f v1 v2 k).bind fun v3 => if ((List.length v3 : Int) == 0) = true then (((law23_told.f).bind fun v6 => if v6 = true then ((plan_May.f v1 v2 v3).bind fun v7 => if v7 = true then ((plan_Pairs.f v1 v2 v3).bind fun v8 => some ((List.length v8 : Int) == 0)) else (some false)) else (some false)).bind fun x4 => some x4) else ((plan_May.f v1 v2 v3).bind fun v9 => if (!v9) = true then (some false) else ((ref1_Within.f p3 0 (w64 ((List.length v3 : Int) - 1))).bind fun v10 => ((ref1_Within.f how 0 4).bind fun v13 => if (v13 == 0) = true then ((ref1_Within.f p5 0 99).bind fun v14 => if (0 ≤ v10 ∧ v10 < (List.length v3 : Int)) then (some (List.set v3 (Int.toNat v10) (api_Unit.mk ((rd v3 v10).Id) (w64 ((w64 (v1 * v2)) + v14)) ((rd v3 v10).Goal)))) else none) else (if (v13 == 1) = true then ((ref1_Within.f p5 0 99).bind fun v15 => if (0 ≤ v10 ∧ v10 < (List.length v3 : Int)) then (some (List.set v3 (Int.toNat v10) (api_Unit.mk ((rd v3 v10).Id) ((rd v3 v10).Cell) (w64 ((-1) - v15))))) else none) else (if (v13 == 2) = true then ((ref1_Within.f p5 0 99).bind fun v16 => if (0 ≤ v10 ∧ v10 < (List.length v3 : Int)) then (some (List.set v3 (Int.toNat v10) (api_Unit.mk (w64 ((-1) - v16)) ((rd v3 v10).Cell) ((rd v3 v10).Goal)))) else none) else (if (v13 == 3) = true then (if (0 ≤ (w64 ((List.length v3 : Int) - 1)) ∧ (w64 ((List.length v3 : Int) - 1)) < (List.length v3 : Int)) then (if (0 ≤ v10 ∧ v10 < (List.length v3 : Int)) then (if (List.length v3 + 1 ≤ 1099511627776) then (some (v3 ++ [(api_Unit.mk (w64 ((rd v3 (w64 ((List.length v3 : Int) - 1))).Id + 1)) ((rd v3 v10).Cell) 0)])) else none) else none) else none) else (if (0 ≤ v10 ∧ v10 < (List.length v3 : Int)) then (if (List.length v3 + 1 ≤ 1099511627776) then (some (v3 ++ [(rd v3 v10)])) else none) else none))))).bind fun x11 => ((law23_told.f).bind fun v19 => if v19 = true then ((plan_May.f v1 v2 x11).bind fun v20 => if (!v20) = true then ((plan_Pairs.f v1 v2 x11).bind fun v21 => some ((List.length v21 : Int) == 0)) else (some false)) else (some false)).bind fun x17 => some x17))
set_option maxHeartbeats 4000000 in
theorem law23_PlanTurned.c {a_k : Option Addr} {n_k : Nat} (w : Int) (h : Int) (k : (List Int)) (p3 : Int) (how : Int) (p5 : Int) (r : Bool) (F : Hp) (H : law23_PlanTurned.f w h k p3 how p5 = some r) (h_k : SliceR (Fl.int .i64) k a_k F) (c_k : List.length k ≤ n_k) :
    CallsL Try.prog 12 [(.int .i64 w), (.int .i64 h), (.slice a_k (List.length k) n_k), (.int .i64 p3), (.int .i64 how), (.int .i64 p5)] [F] (fun _ : Unit => (.bool r)) (fun _ => [F]) := by
  unfold law23_PlanTurned.f at H
  refine calls_atL [(0, (.int .i64 w)), (1, (.int .i64 h)), (2, (.slice a_k (List.length k) n_k)), (3, (.int .i64 p3)), (4, (.int .i64 how)), (5, (.int .i64 p5))] Try.func12 rfl rfl ⟨rfl, rfl, rfl, rfl, rfl, rfl, trivial⟩ (fun W => ?_)
  refine at_seq ?_
  refine at_region [0] rfl ?_
  refine at_s T rfl ?_
  refine at_end ?_
  refine at_sub [(0, (.int .i64 w)), (1, (.int .i64 h)), (2, (.slice a_k (List.length k) n_k)), (3, (.int .i64 p3)), (4, (.int .i64 how)), (5, (.int .i64 p5))] ⟨rfl, rfl, rfl, rfl, rfl, rfl, trivial⟩ ?_
  refine at_then ?_
  refine at_seq ?_
  refine at_region [0, 1, 2, 3, 4, 5] rfl ?_
  refine at_s T rfl ?_
  obtain ⟨v1, V1, H⟩ := bind_e H
  refine at_cons (at_c (B := fun _ => []) [] rfl rfl rfl rfl has15 rfl rfl (ref1_Within.c w 1 60 v1 _ V1) (fun _ => ?_))
  refine at_s T rfl ?_
  obtain ⟨v2, V2, H⟩ := bind_e H
  refine at_cons (at_c (B := fun _ => []) [] rfl rfl rfl rfl has15 rfl rfl (ref1_Within.c h 1 60 v2 _ V2) (fun _ => ?_))
  iterate 2 refine at_s T rfl ?_
  refine at_end ?_
  refine at_sub [(0, (.int .i64 v1)), (1, (.int .i64 v2)), (2, (.slice a_k (List.length k) n_k)), (3, (.int .i64 p3)), (4, (.int .i64 how)), (5, (.int .i64 p5))] ⟨rfl, rfl, rfl, rfl, rfl, rfl, trivial⟩ ?_
  refine at_then ?_
  refine at_seq ?_
  refine at_region [0, 1, 2, 3, 4] rfl ?_
  iterate 3 refine at_s T rfl ?_
  obtain ⟨v3, V3, H⟩ := bind_e H
  refine at_cons (at_cR (ref21_Made.R v3) [] [] rfl rfl rfl rfl has41 rfl rfl (ref21_Made.c v1 v2 k v3 _ V3 (ro_of h_k (j := 0) rfl) c_k) ?_)
  rintro _ _ ⟨a1, n1, H1, s1, rfl, rfl⟩
  refine at_s T rfl ?_
  refine at_end ?_
  refine at_sub [(0, (.int .i64 v1)), (1, (.int .i64 v2)), (3, (.int .i64 p3)), (4, (.int .i64 how)), (5, (.int .i64 p5)), (13, (.slice a1 (List.length v3) n1))] ⟨rfl, rfl, rfl, rfl, rfl, rfl, trivial⟩ ?_
  refine at_then ?_
  refine at_seq ?_
  refine at_seq ?_
  refine at_region [0, 1, 2] rfl ?_
  iterate 3 refine at_s T rfl ?_
  refine at_end ?_
  refine at_sub [(0, (.int .i64 v1)), (1, (.int .i64 v2)), (3, (.int .i64 p3)), (4, (.int .i64 how)), (5, (.int .i64 p5)), (13, (.slice a1 (List.length v3) n1)), (25, (.bool ((List.length v3 : Int) == 0)))] ⟨rfl, rfl, rfl, rfl, rfl, rfl, rfl, trivial⟩ ?_
  refine at_then ?_
  refine at_cond rfl (fun c4 => ?_) (fun c4 => ?_)
  · replace H := if_t c4 H
    obtain ⟨z5, Z5, H⟩ := bind_e H
    refine at_seq_mid (σ := Bool) (fun x4 => x4 = z5) (fun x4 => [(12, (.bool x4))]) (fun x4 => [F]) ?_ ?_
    · refine at_region [0, 1, 2, 3, 4, 5, 6, 7, 8, 9, 10, 11, 12, 13, 14, 15] rfl ?_
      obtain ⟨v6, V6, Z5⟩ := bind_e Z5
      refine at_cons (at_c (B := fun _ => []) [] rfl rfl rfl rfl has43 rfl rfl (law23_told.c  v6 _ V6) (fun _ => ?_))
      refine at_s T rfl ?_
      refine at_case (s := 27) rfl (fun c7 => ?_) (fun c7 => ?_)
      · replace Z5 := if_t c7 Z5
        iterate 3 refine at_s T rfl ?_
        obtain ⟨v7, V8, Z5⟩ := bind_e Z5
        refine at_cons (at_c (B := fun _ => []) [] rfl rfl rfl rfl has44 rfl rfl (plan_May.c v1 v2 v3 v7 _ V8 (own_of s1 (j := 1) rfl) s1.cap_le) (fun _ => ?_))
        iterate 2 refine at_s T rfl ?_
        refine at_case (s := 33) rfl (fun c9 => ?_) (fun c9 => ?_)
        · replace Z5 := if_t c9 Z5
          iterate 3 refine at_s T rfl ?_
          obtain ⟨v8, V10, Z5⟩ := bind_e Z5
          refine at_cons (at_cR (plan_Pairs.R v8) [] [] rfl rfl rfl rfl has42 rfl rfl (plan_Pairs.c v1 v2 v3 v8 _ V10 (own_of s1 (j := 1) rfl) s1.cap_le) ?_)
          rintro _ _ ⟨a2, n2, H2, s2, rfl, rfl⟩
          iterate 4 refine at_s T rfl ?_
          refine at_end ?_
          refine at_to [(12, (.bool ((List.length v8 : Int) == 0)))] [0] [F] ⟨rfl, trivial⟩ rfl ?_
          refine at_then ?_
          obtain rfl := Option.some.inj Z5
          exact at_mid ((List.length v8 : Int) == 0) [0] rfl ⟨rfl, trivial⟩ rfl
        · replace Z5 := if_f (bf c9) Z5
          iterate 8 refine at_s T rfl ?_
          refine at_end ?_
          refine at_to [(12, (.bool false))] [0] [F] ⟨rfl, trivial⟩ rfl ?_
          refine at_then ?_
          obtain rfl := Option.some.inj Z5
          exact at_mid false [0] rfl ⟨rfl, trivial⟩ rfl
      · replace Z5 := if_f (bf c7) Z5
        iterate 14 refine at_s T rfl ?_
        refine at_end ?_
        refine at_to [(12, (.bool false))] [0] [F] ⟨rfl, trivial⟩ rfl ?_
        refine at_then ?_
        obtain rfl := Option.some.inj Z5
        exact at_mid false [0] rfl ⟨rfl, trivial⟩ rfl
    · rintro x4 rfl
      refine at_ret ?_
      refine at_rt ?_
      obtain rfl := Option.some.inj H
      exact at_post (T := T) rfl (.tmp rfl .nil) (fun w o => ⟨(), rfl, own_to [0] rfl o⟩)
  · replace H := if_f (bf c4) H
    refine at_skip ?_
    refine at_then ?_
    refine at_seq ?_
    refine at_seq ?_
    refine at_region [0, 1, 2, 3, 4] rfl ?_
    iterate 3 refine at_s T rfl ?_
    obtain ⟨v9, V11, H⟩ := bind_e H
    refine at_cons (at_c (B := fun _ => []) [] rfl rfl rfl rfl has44 rfl rfl (plan_May.c v1 v2 v3 v9 _ V11 (own_of s1 (j := 1) rfl) s1.cap_le) (fun _ => ?_))
    refine at_s T rfl ?_
    refine at_end ?_
    refine at_sub [(0, (.int .i64 v1)), (1, (.int .i64 v2)), (3, (.int .i64 p3)), (4, (.int .i64 how)), (5, (.int .i64 p5)), (13, (.slice a1 (List.length v3) n1)), (45, (.bool (!v9)))] ⟨rfl, rfl, rfl, rfl, rfl, rfl, rfl, trivial⟩ ?_
    refine at_then ?_
    refine at_cond rfl (fun c12 => ?_) (fun c12 => ?_)
    · replace H := if_t c12 H
      refine at_seq ?_
      refine at_region [0] rfl ?_
      refine at_s T rfl ?_
      refine at_end ?_
      refine at_to [(12, (.bool false))] [0] [F] ⟨rfl, trivial⟩ rfl ?_
      refine at_then ?_
      refine at_ret ?_
      refine at_rt ?_
      obtain rfl := Option.some.inj H
      exact at_post (T := T) rfl (.tmp rfl .nil) (fun w o => ⟨(), rfl, own_to [0] rfl o⟩)
    · replace H := if_f (bf c12) H
      refine at_skip ?_
      refine at_then ?_
      refine at_seq ?_
      refine at_region [0, 1, 2, 3, 4, 5] rfl ?_
      iterate 4 refine at_s T rfl ?_
      obtain ⟨v10, V13, H⟩ := bind_e H
      refine at_cons (at_c (B := fun _ => []) [] rfl rfl rfl rfl has15 rfl rfl (ref1_Within.c p3 0 (w64 ((List.length v3 : Int) - 1)) v10 _ V13) (fun _ => ?_))
      refine at_s T rfl ?_
      refine at_end ?_
      refine at_sub [(0, (.int .i64 v1)), (1, (.int .i64 v2)), (4, (.int .i64 how)), (5, (.int .i64 p5)), (13, (.slice a1 (List.length v3) n1)), (14, (.int .i64 v10))] ⟨rfl, rfl, rfl, rfl, rfl, rfl, trivial⟩ ?_
      refine at_then ?_
      obtain ⟨z12, Z14, H⟩ := bind_e H
      refine at_seq_mid (σ := List api_Unit × Option Addr × Nat × Hp) (fun ⟨x11, a3, n3, H3⟩ => x11 = z12 ∧ SliceO k_api_Unit 47 x11 a3 n3 H3) (fun ⟨x11, a3, n3, H3⟩ => [(0, (.int .i64 v1)), (1, (.int .i64 v2)), (13, (.slice a3 (List.length x11) n3))]) (fun ⟨x11, a3, n3, H3⟩ => [F, H3]) ?_ ?_
      · refine at_seq ?_
        refine at_region [0, 1] rfl ?_
        refine at_s T rfl ?_
        obtain ⟨v13, V15, Z14⟩ := bind_e Z14
        refine at_cons (at_c (B := fun _ => []) [] rfl rfl rfl rfl has15 rfl rfl (ref1_Within.c how 0 4 v13 _ V15) (fun _ => ?_))
        refine at_end ?_
        refine at_sub [(0, (.int .i64 v1)), (1, (.int .i64 v2)), (5, (.int .i64 p5)), (13, (.slice a1 (List.length v3) n1)), (14, (.int .i64 v10)), (52, (.int .i64 v13))] ⟨rfl, rfl, rfl, rfl, rfl, rfl, trivial⟩ ?_
        refine at_then ?_
        refine at_block ?_
        refine at_seq ?_
        refine at_region [0, 1] rfl ?_
        iterate 2 refine at_s T rfl ?_
        refine at_end ?_
        refine at_sub [(0, (.int .i64 v1)), (1, (.int .i64 v2)), (5, (.int .i64 p5)), (13, (.slice a1 (List.length v3) n1)), (14, (.int .i64 v10)), (52, (.int .i64 v13)), (60, (.bool (v13 == 0)))] ⟨rfl, rfl, rfl, rfl, rfl, rfl, rfl, trivial⟩ ?_
        refine at_then ?_
        refine at_cond rfl (fun c16 => ?_) (fun c16 => ?_)
        · replace Z14 := if_t c16 Z14
          refine at_region [0, 1, 2, 3, 4, 5, 6, 7, 8, 9, 10] rfl ?_
          iterate 6 refine at_s T rfl ?_
          obtain ⟨v14, V17, Z14⟩ := bind_e Z14
          refine at_cons (at_c (B := fun _ => []) [] rfl rfl rfl rfl has15 rfl rfl (ref1_Within.c p5 0 99 v14 _ V17) (fun _ => ?_))
          refine at_s T rfl ?_
          obtain ⟨c18, Z14⟩ := chk_e Z14
          obtain ⟨q4, o4, e4⟩ := s1.r.addr c18.1 c18.2
          refine at_v rfl (g_index T rfl rfl rfl rfl rfl e4 c18.1 c18.2) ?_
          refine at_s T rfl ?_
          refine at_cons (at_se (k := k_api_Unit) T 1 1 (api_Unit.mk ((rd v3 v10).Id) (w64 ((w64 (v1 * v2)) + v14)) ((rd v3 v10).Goal)) rfl rfl rfl rfl rfl rfl s1 e4 c18 rfl rfl rfl (fun H5 s5 => ?_))
          refine at_to [(0, (.int .i64 v1)), (1, (.int .i64 v2)), (13, (.slice a1 (List.length (List.set v3 (Int.toNat v10) (api_Unit.mk ((rd v3 v10).Id) (w64 ((w64 (v1 * v2)) + v14)) ((rd v3 v10).Goal)))) n1))] [0, 0] [F, H5] ⟨rfl, rfl, (by first | rfl | (simp only [List.length_set]; rfl)), trivial⟩ rfl ?_
          refine at_end ?_
          refine at_sub [(0, (.int .i64 v1)), (1, (.int .i64 v2)), (13, (.slice a1 (List.length (List.set v3 (Int.toNat v10) (api_Unit.mk ((rd v3 v10).Id) (w64 ((w64 (v1 * v2)) + v14)) ((rd v3 v10).Goal)))) n1))] ⟨rfl, rfl, rfl, trivial⟩ ?_
          refine at_nb ?_
          refine at_then ?_
          obtain rfl := Option.some.inj Z14
          exact at_mid ((List.set v3 (Int.toNat v10) (api_Unit.mk ((rd v3 v10).Id) (w64 ((w64 (v1 * v2)) + v14)) ((rd v3 v10).Goal))), a1, n1, H5) [0, 0] ⟨rfl, s5⟩ ⟨rfl, rfl, rfl, trivial⟩ rfl
        · replace Z14 := if_f (bf c16) Z14
          refine at_seq ?_
          refine at_region [0, 1] rfl ?_
          iterate 2 refine at_s T rfl ?_
          refine at_end ?_
          refine at_sub [(0, (.int .i64 v1)), (1, (.int .i64 v2)), (5, (.int .i64 p5)), (13, (.slice a1 (List.length v3) n1)), (14, (.int .i64 v10)), (52, (.int .i64 v13)), (72, (.bool (v13 == 1)))] ⟨rfl, rfl, rfl, rfl, rfl, rfl, rfl, trivial⟩ ?_
          refine at_then ?_
          refine at_cond rfl (fun c19 => ?_) (fun c19 => ?_)
          · replace Z14 := if_t c19 Z14
            refine at_region [0, 1, 2, 3, 4, 5, 6, 7] rfl ?_
            iterate 3 refine at_s T rfl ?_
            obtain ⟨v15, V20, Z14⟩ := bind_e Z14
            refine at_cons (at_c (B := fun _ => []) [] rfl rfl rfl rfl has15 rfl rfl (ref1_Within.c p5 0 99 v15 _ V20) (fun _ => ?_))
            refine at_s T rfl ?_
            obtain ⟨c21, Z14⟩ := chk_e Z14
            obtain ⟨q6, o6, e6⟩ := s1.r.addr c21.1 c21.2
            refine at_v rfl (g_index T rfl rfl rfl rfl rfl e6 c21.1 c21.2) ?_
            refine at_s T rfl ?_
            refine at_cons (at_se (k := k_api_Unit) T 1 2 (api_Unit.mk ((rd v3 v10).Id) ((rd v3 v10).Cell) (w64 ((-1) - v15))) rfl rfl rfl rfl rfl rfl s1 e6 c21 rfl rfl rfl (fun H7 s7 => ?_))
            refine at_to [(0, (.int .i64 v1)), (1, (.int .i64 v2)), (13, (.slice a1 (List.length (List.set v3 (Int.toNat v10) (api_Unit.mk ((rd v3 v10).Id) ((rd v3 v10).Cell) (w64 ((-1) - v15))))) n1))] [0, 0] [F, H7] ⟨rfl, rfl, (by first | rfl | (simp only [List.length_set]; rfl)), trivial⟩ rfl ?_
            refine at_end ?_
            refine at_sub [(0, (.int .i64 v1)), (1, (.int .i64 v2)), (13, (.slice a1 (List.length (List.set v3 (Int.toNat v10) (api_Unit.mk ((rd v3 v10).Id) ((rd v3 v10).Cell) (w64 ((-1) - v15))))) n1))] ⟨rfl, rfl, rfl, trivial⟩ ?_
            refine at_nb ?_
            refine at_then ?_
            obtain rfl := Option.some.inj Z14
            exact at_mid ((List.set v3 (Int.toNat v10) (api_Unit.mk ((rd v3 v10).Id) ((rd v3 v10).Cell) (w64 ((-1) - v15)))), a1, n1, H7) [0, 0] ⟨rfl, s7⟩ ⟨rfl, rfl, rfl, trivial⟩ rfl
          · replace Z14 := if_f (bf c19) Z14
            refine at_seq ?_
            refine at_region [0, 1] rfl ?_
            iterate 2 refine at_s T rfl ?_
            refine at_end ?_
            refine at_sub [(0, (.int .i64 v1)), (1, (.int .i64 v2)), (5, (.int .i64 p5)), (13, (.slice a1 (List.length v3) n1)), (14, (.int .i64 v10)), (52, (.int .i64 v13)), (81, (.bool (v13 == 2)))] ⟨rfl, rfl, rfl, rfl, rfl, rfl, rfl, trivial⟩ ?_
            refine at_then ?_
            refine at_cond rfl (fun c22 => ?_) (fun c22 => ?_)
            · replace Z14 := if_t c22 Z14
              refine at_region [0, 1, 2, 3, 4, 5, 6, 7] rfl ?_
              iterate 3 refine at_s T rfl ?_
              obtain ⟨v16, V23, Z14⟩ := bind_e Z14
              refine at_cons (at_c (B := fun _ => []) [] rfl rfl rfl rfl has15 rfl rfl (ref1_Within.c p5 0 99 v16 _ V23) (fun _ => ?_))
              refine at_s T rfl ?_
              obtain ⟨c24, Z14⟩ := chk_e Z14
              obtain ⟨q8, o8, e8⟩ := s1.r.addr c24.1 c24.2
              refine at_v rfl (g_index T rfl rfl rfl rfl rfl e8 c24.1 c24.2) ?_
              refine at_s T rfl ?_
              refine at_cons (at_se (k := k_api_Unit) T 1 0 (api_Unit.mk (w64 ((-1) - v16)) ((rd v3 v10).Cell) ((rd v3 v10).Goal)) rfl rfl rfl rfl rfl rfl s1 e8 c24 rfl rfl rfl (fun H9 s9 => ?_))
              refine at_to [(0, (.int .i64 v1)), (1, (.int .i64 v2)), (13, (.slice a1 (List.length (List.set v3 (Int.toNat v10) (api_Unit.mk (w64 ((-1) - v16)) ((rd v3 v10).Cell) ((rd v3 v10).Goal)))) n1))] [0, 0] [F, H9] ⟨rfl, rfl, (by first | rfl | (simp only [List.length_set]; rfl)), trivial⟩ rfl ?_
              refine at_end ?_
              refine at_sub [(0, (.int .i64 v1)), (1, (.int .i64 v2)), (13, (.slice a1 (List.length (List.set v3 (Int.toNat v10) (api_Unit.mk (w64 ((-1) - v16)) ((rd v3 v10).Cell) ((rd v3 v10).Goal)))) n1))] ⟨rfl, rfl, rfl, trivial⟩ ?_
              refine at_nb ?_
              refine at_then ?_
              obtain rfl := Option.some.inj Z14
              exact at_mid ((List.set v3 (Int.toNat v10) (api_Unit.mk (w64 ((-1) - v16)) ((rd v3 v10).Cell) ((rd v3 v10).Goal))), a1, n1, H9) [0, 0] ⟨rfl, s9⟩ ⟨rfl, rfl, rfl, trivial⟩ rfl
            · replace Z14 := if_f (bf c22) Z14
              refine at_seq ?_
              refine at_region [0, 1] rfl ?_
              iterate 2 refine at_s T rfl ?_
              refine at_end ?_
              refine at_sub [(0, (.int .i64 v1)), (1, (.int .i64 v2)), (13, (.slice a1 (List.length v3) n1)), (14, (.int .i64 v10)), (90, (.bool (v13 == 3)))] ⟨rfl, rfl, rfl, rfl, rfl, trivial⟩ ?_
              refine at_then ?_
              refine at_cond rfl (fun c25 => ?_) (fun c25 => ?_)
              · replace Z14 := if_t c25 Z14
                refine at_region_m [[], [], [], [2], [2, 3], [1, 2, 3, 4], [1, 2, 3, 4, 5], [1, 2, 3, 4, 5, 6], [1, 2, 3, 4, 5, 6, 7], [], [], [9, 10], [9, 10, 11], [9, 10, 11, 12], [1, 2, 3, 4, 5, 6, 7, 8, 9, 10, 11, 12, 13], [1, 2, 3, 4, 5, 6, 7, 8, 9, 10, 11, 12, 13, 14], [0, 1, 2, 3, 4, 5, 6, 7, 8, 9, 10, 11, 12, 13, 14, 15], [0, 1, 2, 3, 4, 5, 6, 7, 8, 9, 10, 11, 12, 13, 14, 15, 16]] [16] [F, H1] mix (by kernel_rfl) (by repeat first | exact pf_body | refine pf_then ?_ | refine pf_block ?_) (fun hg pf => ?_)
                refine atm_s T 0 hg pf (by kernel_rfl) (still_o [0, 0] rfl) rfl ?_
                refine atm_s T 1 hg pf (by kernel_rfl) (still_o [0, 0] rfl) rfl ?_
                refine atm_s T 2 hg pf (by kernel_rfl) (still_o [0, 0] rfl) rfl ?_
                refine atm_s T 3 hg pf (by kernel_rfl) (still_o [0, 0] rfl) rfl ?_
                refine atm_s T 4 hg pf (by kernel_rfl) (still_o [0, 0] rfl) rfl ?_
                obtain ⟨c26, Z14⟩ := chk_e Z14
                obtain ⟨q10, o10, e10⟩ := s1.r.addr c26.1 c26.2
                refine atm_v 5 hg pf (by kernel_rfl) (still_o [0, 0] rfl) rfl rfl (g_index T rfl rfl rfl rfl rfl e10 c26.1 c26.2) ?_
                refine atm_s T 6 hg pf (by kernel_rfl) (still_o [0, 0] rfl) rfl ?_
                refine atm_v 7 hg pf (by kernel_rfl) (still_o [0, 0] rfl) rfl rfl (g_load T rfl rfl rfl rfl (in_elem1 (k := k_api_Unit) (own_of s1 (j := 1) rfl) e10 c26 0 rfl)) ?_
                refine atm_s T 8 hg pf (by kernel_rfl) (still_o [0, 0] rfl) rfl ?_
                refine atm_s T 9 hg pf (by kernel_rfl) (still_o [0, 0] rfl) rfl ?_
                refine atm_s T 10 hg pf (by kernel_rfl) (still_o [0, 0] rfl) rfl ?_
                obtain ⟨c27, Z14⟩ := chk_e Z14
                refine atm_v 11 hg pf (by kernel_rfl) (still_o [0, 0] rfl) rfl rfl (g_index T rfl rfl rfl rfl rfl e10 c27.1 c27.2) ?_
                refine atm_s T 12 hg pf (by kernel_rfl) (still_o [0, 0] rfl) rfl ?_
                refine atm_v 13 hg pf (by kernel_rfl) (still_o [0, 0] rfl) rfl rfl (g_load T rfl rfl rfl rfl (in_elem1 (k := k_api_Unit) (own_of s1 (j := 1) rfl) e10 c27 1 rfl)) ?_
                refine atm_s T 14 hg pf (by kernel_rfl) (still_o [0, 0] rfl) rfl ?_
                refine atm_one 15 (by kernel_rfl) ?_
                refine at_bs (k := k_api_Unit) T [(api_Unit.mk (w64 ((rd v3 (w64 ((List.length v3 : Int) - 1))).Id + 1)) ((rd v3 v10).Cell) 0)] rfl rfl rfl rfl rfl rfl rfl rfl rfl (fun a11 H11 s11 => ?_)
                refine atm_next (still_o [0, 0] rfl) ?_
                refine atm_one 16 (by kernel_rfl) ?_
                obtain ⟨c28, Z14⟩ := chk_e Z14
                refine at_ap (k := k_api_Unit) (xs := v3) T (g := 1) rfl rfl rfl rfl rfl rfl rfl rfl rfl rfl s1 (own_of s11 (j := 2) rfl) c28 rfl (fun a12 n12 H12 s12 => ?_)
                refine atm_next (still_l (by kernel_rfl)) ?_
                refine atm_s T 17 hg pf (by kernel_rfl) (still_l (by kernel_rfl)) rfl ?_
                refine atm_end (by kernel_rfl) ?_
                refine at_to [(0, (.int .i64 v1)), (1, (.int .i64 v2)), (13, (.slice a12 (List.length (v3 ++ [(api_Unit.mk (w64 ((rd v3 (w64 ((List.length v3 : Int) - 1))).Id + 1)) ((rd v3 v10).Cell) 0)])) n12))] [0, 0] [F, H12] ⟨rfl, rfl, rfl, trivial⟩ rfl ?_
                refine at_nb ?_
                refine at_then ?_
                obtain rfl := Option.some.inj Z14
                exact at_mid ((v3 ++ [(api_Unit.mk (w64 ((rd v3 (w64 ((List.length v3 : Int) - 1))).Id + 1)) ((rd v3 v10).Cell) 0)]), a12, n12, H12) [0, 0] ⟨rfl, s12⟩ ⟨rfl, rfl, rfl, trivial⟩ rfl
              · replace Z14 := if_f (bf c25) Z14
                refine at_region [0, 1, 2, 3, 4, 5, 6, 7] rfl ?_
                iterate 3 refine at_s T rfl ?_
                obtain ⟨c29, Z14⟩ := chk_e Z14
                obtain ⟨q13, o13, e13⟩ := s1.r.addr c29.1 c29.2
                refine at_v rfl (g_index T rfl rfl rfl rfl rfl e13 c29.1 c29.2) ?_
                refine at_v rfl (g_loadA T (cs := [(.int .i64 (rd v3 v10).Id), (.int .i64 (rd v3 v10).Cell), (.int .i64 (rd v3 v10).Goal)]) rfl rfl rfl rfl rfl rfl (in_elemA (k := k_api_Unit) (own_of s1 (j := 1) rfl) e13 c29 rfl)) ?_
                refine at_cons (at_bs (k := k_api_Unit) T [(rd v3 v10)] rfl rfl rfl rfl rfl rfl rfl rfl rfl (fun a14 H14 s14 => ?_))
                obtain ⟨c30, Z14⟩ := chk_e Z14
                refine at_cons (at_ap (k := k_api_Unit) (xs := v3) T (g := 1) rfl rfl rfl rfl rfl rfl rfl rfl rfl rfl s1 (own_of s14 (j := 2) rfl) c30 rfl (fun a15 n15 H15 s15 => ?_))
                refine at_s T rfl ?_
                refine at_end ?_
                refine at_to [(0, (.int .i64 v1)), (1, (.int .i64 v2)), (13, (.slice a15 (List.length (v3 ++ [(rd v3 v10)])) n15))] [0, 0] [F, H15] ⟨rfl, rfl, rfl, trivial⟩ rfl ?_
                refine at_nb ?_
                refine at_then ?_
                obtain rfl := Option.some.inj Z14
                exact at_mid ((v3 ++ [(rd v3 v10)]), a15, n15, H15) [0, 0] ⟨rfl, s15⟩ ⟨rfl, rfl, rfl, trivial⟩ rfl
      · rintro ⟨x11, a3, n3, H3⟩ ⟨rfl, s3⟩
        obtain ⟨z18, Z31, H⟩ := bind_e H
        refine at_seq_mid (σ := Bool) (fun x17 => x17 = z18) (fun x17 => [(12, (.bool x17))]) (fun x17 => [F]) ?_ ?_
        · refine at_region [0, 1, 2, 3, 4, 5, 6, 7, 8, 9, 10, 11, 12, 13, 14, 15, 16] rfl ?_
          obtain ⟨v19, V32, Z31⟩ := bind_e Z31
          refine at_cons (at_c (B := fun _ => []) [] rfl rfl rfl rfl has43 rfl rfl (law23_told.c  v19 _ V32) (fun _ => ?_))
          refine at_s T rfl ?_
          refine at_case (s := 110) rfl (fun c33 => ?_) (fun c33 => ?_)
          · replace Z31 := if_t c33 Z31
            iterate 3 refine at_s T rfl ?_
            obtain ⟨v20, V34, Z31⟩ := bind_e Z31
            refine at_cons (at_c (B := fun _ => []) [] rfl rfl rfl rfl has44 rfl rfl (plan_May.c v1 v2 x11 v20 _ V34 (own_of s3 (j := 1) rfl) s3.cap_le) (fun _ => ?_))
            iterate 3 refine at_s T rfl ?_
            refine at_case (s := 117) rfl (fun c35 => ?_) (fun c35 => ?_)
            · replace Z31 := if_t c35 Z31
              iterate 3 refine at_s T rfl ?_
              obtain ⟨v21, V36, Z31⟩ := bind_e Z31
              refine at_cons (at_cR (plan_Pairs.R v21) [] [] rfl rfl rfl rfl has42 rfl rfl (plan_Pairs.c v1 v2 x11 v21 _ V36 (own_of s3 (j := 1) rfl) s3.cap_le) ?_)
              rintro _ _ ⟨a16, n16, H16, s16, rfl, rfl⟩
              iterate 4 refine at_s T rfl ?_
              refine at_end ?_
              refine at_to [(12, (.bool ((List.length v21 : Int) == 0)))] [0] [F] ⟨rfl, trivial⟩ rfl ?_
              refine at_then ?_
              obtain rfl := Option.some.inj Z31
              exact at_mid ((List.length v21 : Int) == 0) [0] rfl ⟨rfl, trivial⟩ rfl
            · replace Z31 := if_f (bf c35) Z31
              iterate 8 refine at_s T rfl ?_
              refine at_end ?_
              refine at_to [(12, (.bool false))] [0] [F] ⟨rfl, trivial⟩ rfl ?_
              refine at_then ?_
              obtain rfl := Option.some.inj Z31
              exact at_mid false [0] rfl ⟨rfl, trivial⟩ rfl
          · replace Z31 := if_f (bf c33) Z31
            iterate 15 refine at_s T rfl ?_
            refine at_end ?_
            refine at_to [(12, (.bool false))] [0] [F] ⟨rfl, trivial⟩ rfl ?_
            refine at_then ?_
            obtain rfl := Option.some.inj Z31
            exact at_mid false [0] rfl ⟨rfl, trivial⟩ rfl
        · rintro x17 rfl
          refine at_ret ?_
          obtain rfl := Option.some.inj H
          exact at_post (T := T) rfl (.tmp rfl .nil) (fun w o => ⟨(), rfl, own_to [0] rfl o⟩)
def law23_PlanTurned.Pure : Prop := ∀ (w : Int) (h : Int) (k : (List Int)) (p3 : Int) (how : Int) (p5 : Int), inI64 w → inI64 h → (∀ y ∈ k, inI64 y) → inI64 p3 → inI64 how → inI64 p5 → List.length k ≤ 9223372036854775807 → law23_PlanTurned.f w h k p3 how p5 = some true
end Go.Proofs.Ytmddmofncblfpaa
