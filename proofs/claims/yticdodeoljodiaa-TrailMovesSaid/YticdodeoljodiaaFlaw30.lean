import Derived.Test.YticdodeoljodiaaT
import Derived.Test.YticdodeoljodiaaFref1
import Derived.Test.YticdodeoljodiaaFtrail
namespace Go.Proofs.Yticdodeoljodiaa
open Go.Hx
set_option maxRecDepth 100000
set_option linter.unusedVariables false
noncomputable section
/-! ### herdsman/herdsmanlaw30.told: function 34 -/
def law30_told.f : Option Bool := (trail_Path.f (api_Map.mk 3 1 [5, 2, 9]) 2 0).bind fun v1 => (trail_Cost.f (api_Map.mk 3 1 [5, 2, 9]) v1.1).bind fun v2 => (if (v1.2 && v2.2) = true then ((ref1_Ints.f v1.1 [0, 1, 2]).bind fun v5 => some (v5 && (v2.1 == 11))) else (some false)).bind fun x3 => some x3
set_option maxHeartbeats 4000000 in
theorem law30_told.c (r : Bool) (F : Hp) (H : law30_told.f = some r) :
    CallsL Try.prog 34 [] [F] (fun _ : Unit => (.bool r)) (fun _ => [F]) := by
  unfold law30_told.f at H
  refine calls_atL [] Try.func34 rfl rfl trivial (fun W => ?_)
  refine at_seq ?_
  refine at_region [0] rfl ?_
  refine at_s T rfl ?_
  refine at_end ?_
  refine at_sub [] trivial ?_
  refine at_then ?_
  refine at_seq ?_
  refine at_region [0, 1, 2, 3] rfl ?_
  refine at_cons (at_bs (k := (Fl.int .u8)) T [5, 2, 9] rfl rfl rfl rfl rfl rfl rfl rfl rfl (fun a1 H1 s1 => ?_))
  refine at_s T rfl ?_
  refine at_cons (at_al T [(.int .i64 0), (.int .i64 0), (.slice none 0 0)] rfl rfl rfl rfl (fun b2 => ?_))
  refine at_cons (at_st T 2 [(.int .i64 3), (.int .i64 1), (.slice a1 (List.length [5, 2, 9]) (List.length [5, 2, 9]))] rfl rfl rfl rfl rfl rfl rfl rfl rfl rfl ?_)
  refine at_end ?_
  refine at_sub [(1, (.pointer (some ⟨b2, 0, none⟩)))] ⟨rfl, trivial⟩ ?_
  refine at_then ?_
  refine at_seq ?_
  refine at_region [0, 1, 2, 3, 4, 5, 6] rfl ?_
  refine at_v rfl (g_loadA T (cs := [(.int .i64 3), (.int .i64 1), (.slice a1 (List.length [5, 2, 9]) (List.length [5, 2, 9]))]) rfl rfl rfl rfl rfl rfl (in_varA (j := 2) rfl rfl)) ?_
  obtain ⟨v1, V1, H⟩ := bind_e H
  refine at_cons (at_cR (trail_Path.R v1) [] [] rfl rfl rfl rfl has37 rfl rfl (trail_Path.c (api_Map.mk 3 1 [5, 2, 9]) 2 0 v1 _ V1 (own_of s1 (j := 1) rfl) s1.cap_le) ?_)
  rintro _ _ ⟨a3, n3, H3, s3, rfl, rfl⟩
  iterate 5 refine at_s T rfl ?_
  refine at_end ?_
  refine at_sub [(1, (.pointer (some ⟨b2, 0, none⟩))), (2, (.slice a3 (List.length v1.1) n3)), (3, (.bool v1.2))] ⟨rfl, rfl, rfl, trivial⟩ ?_
  refine at_then ?_
  refine at_seq ?_
  refine at_region [0, 1, 2, 3, 4, 5, 6, 7] rfl ?_
  refine at_v rfl (g_loadA T (cs := [(.int .i64 3), (.int .i64 1), (.slice a1 (List.length [5, 2, 9]) (List.length [5, 2, 9]))]) rfl rfl rfl rfl rfl rfl (in_varA (j := 2) rfl rfl)) ?_
  refine at_s T rfl ?_
  obtain ⟨v2, V2, H⟩ := bind_e H
  refine at_cons (at_c (B := fun _ => []) [] rfl rfl rfl rfl has39 rfl rfl (trail_Cost.c (api_Map.mk 3 1 [5, 2, 9]) v1.1 v2 _ V2 (own_of s1 (j := 1) rfl) s1.cap_le (own_of s3 (j := 3) rfl) s3.cap_le) (fun _ => ?_))
  iterate 5 refine at_s T rfl ?_
  refine at_end ?_
  refine at_to [(2, (.slice a3 (List.length v1.1) n3)), (3, (.bool v1.2)), (4, (.int .i64 v2.1)), (5, (.bool v2.2))] [0, 2] [F, H3] ⟨rfl, rfl, rfl, rfl, trivial⟩ rfl ?_
  refine at_then ?_
  obtain ⟨z4, Z3, H⟩ := bind_e H
  refine at_seq_mid (σ := Bool) (fun x3 => x3 = z4) (fun x3 => [(0, (.bool x3))]) (fun x3 => [F]) ?_ ?_
  · refine at_region [0, 1, 2, 3, 4, 5, 6, 7, 8, 9, 10, 11, 12, 13] rfl ?_
    iterate 2 refine at_s T rfl ?_
    refine at_grp T [2, 3] (s := 20) (c := v1.2) [(2, (.slice a3 (List.length v1.1) n3)), (4, (.int .i64 v2.1)), (22, (.bool (v1.2 && v2.2)))] rfl rfl rfl (fun c4 => ⟨rfl, rfl, (by rw [c4]; rfl), trivial⟩) (fun c4 => ⟨rfl, rfl, (by rw [c4]; rfl), trivial⟩) ?_
    refine at_s T rfl ?_
    refine at_case (s := 23) rfl (fun c5 => ?_) (fun c5 => ?_)
    · replace Z3 := if_t c5 Z3
      refine at_s T rfl ?_
      refine at_cons (at_bs (k := (Fl.int .i64)) T [0, 1, 2] rfl rfl rfl rfl rfl rfl rfl rfl rfl (fun a4 H4 s4 => ?_))
      obtain ⟨v5, V6, Z3⟩ := bind_e Z3
      refine at_cons (at_c (B := fun _ => []) [] rfl rfl rfl rfl has20 rfl rfl (ref1_Ints.c v1.1 [0, 1, 2] v5 _ V6 (own_of s3 (j := 1) rfl) s3.cap_le (own_of s4 (j := 2) rfl) s4.cap_le) (fun _ => ?_))
      iterate 2 refine at_s T rfl ?_
      refine at_grp T [10, 11, 12] (s := 28) (c := v5) [(31, (.bool (v5 && (v2.1 == 11))))] rfl rfl rfl (fun c7 => ⟨(by rw [c7]; rfl), trivial⟩) (fun c7 => ⟨(by rw [c7]; rfl), trivial⟩) ?_
      refine at_s T rfl ?_
      refine at_end ?_
      refine at_to [(0, (.bool (v5 && (v2.1 == 11))))] [0] [F] ⟨rfl, trivial⟩ rfl ?_
      refine at_then ?_
      obtain rfl := Option.some.inj Z3
      exact at_mid (v5 && (v2.1 == 11)) [0] rfl ⟨rfl, trivial⟩ rfl
    · replace Z3 := if_f (bf c5) Z3
      iterate 9 refine at_s T rfl ?_
      refine at_end ?_
      refine at_to [(0, (.bool false))] [0] [F] ⟨rfl, trivial⟩ rfl ?_
      refine at_then ?_
      obtain rfl := Option.some.inj Z3
      exact at_mid false [0] rfl ⟨rfl, trivial⟩ rfl
  · rintro x3 rfl
    refine at_ret ?_
    obtain rfl := Option.some.inj H
    exact at_post (T := T) rfl (.tmp rfl .nil) (fun w o => ⟨(), rfl, own_to [0] rfl o⟩)
end

end Go.Proofs.Yticdodeoljodiaa
