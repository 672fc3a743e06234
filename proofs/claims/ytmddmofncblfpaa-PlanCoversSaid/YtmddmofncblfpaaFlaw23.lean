import Derived.Test.YtmddmofncblfpaaT
import Derived.Test.YtmddmofncblfpaaFplan
import Derived.Test.YtmddmofncblfpaaFref1
namespace Go.Proofs.Ytmddmofncblfpaa
open Go.Hx
set_option maxRecDepth 100000
set_option linter.unusedVariables false
/-! ### herdsman/herdsmanlaw23.told: function 43 -/
def law23_told.f : Option Bool := (plan_Pairs.f 4 1 [(api_Unit.mk 1 0 3), (api_Unit.mk 5 2 3)]).bind fun v1 => (if ((List.length v1 : Int) == 1) = true then (if (0 ≤ (0 : Int) ∧ (0 : Int) < (List.length v1 : Int)) then (if ((rd v1 0).Goal == 3) = true then (if ((rd v1 0).Sector == 0) = true then ((ref1_Ints.f ((rd v1 0).Ids) [1, 5]).bind fun v4 => some v4) else (some false)) else (some false)) else none) else (some false)).bind fun x2 => some x2
set_option maxHeartbeats 4000000 in
theorem law23_told.c (r : Bool) (F : Hp) (H : law23_told.f = some r) :
    CallsL Try.prog 43 [] [F] (fun _ : Unit => (.bool r)) (fun _ => [F]) := by
  unfold law23_told.f at H
  refine calls_atL [] Try.func43 rfl rfl trivial (fun W => ?_)
  refine at_seq ?_
  refine at_region [0] rfl ?_
  refine at_s T rfl ?_
  refine at_end ?_
  refine at_sub [] trivial ?_
  refine at_then ?_
  refine at_seq ?_
  refine at_region [0, 1, 2, 3, 4] rfl ?_
  iterate 2 refine at_s T rfl ?_
  refine at_cons (at_bs (k := k_api_Unit) T [(api_Unit.mk 1 0 3), (api_Unit.mk 5 2 3)] rfl rfl rfl rfl rfl rfl rfl rfl rfl (fun a1 H1 s1 => ?_))
  obtain ⟨v1, V1, H⟩ := bind_e H
  refine at_cons (at_cR (plan_Pairs.R v1) [] [] rfl rfl rfl rfl has42 rfl rfl (plan_Pairs.c 4 1 [(api_Unit.mk 1 0 3), (api_Unit.mk 5 2 3)] v1 _ V1 (own_of s1 (j := 1) rfl) s1.cap_le) ?_)
  rintro _ _ ⟨a2, n2, H2, s2, rfl, rfl⟩
  refine at_s T rfl ?_
  refine at_end ?_
  refine at_to [(1, (.slice a2 (List.length v1) n2))] [0, 1] [F, H2] ⟨rfl, trivial⟩ rfl ?_
  refine at_then ?_
  obtain ⟨z3, Z2, H⟩ := bind_e H
  refine at_seq_mid (σ := Bool) (fun x2 => x2 = z3) (fun x2 => [(0, (.bool x2))]) (fun x2 => [F]) ?_ ?_
  · refine at_region [0, 1, 2, 3, 4, 5, 6, 7, 8, 9, 10, 11, 12, 13, 14, 15, 16, 17, 18, 19, 20, 21, 22, 23, 24, 25] rfl ?_
    iterate 4 refine at_s T rfl ?_
    refine at_case (s := 9) rfl (fun c3 => ?_) (fun c3 => ?_)
    · replace Z2 := if_t c3 Z2
      refine at_s T rfl ?_
      obtain ⟨c4, Z2⟩ := chk_e Z2
      obtain ⟨q3, o3, e3⟩ := s2.r.addr c4.1 c4.2
      refine at_v rfl (g_index T rfl rfl rfl rfl rfl e3 c4.1 c4.2) ?_
      refine at_s T rfl ?_
      obtain ⟨_, w5, ⟨a4, n4, ⟨r4, m4⟩, rfl⟩⟩ := SliceDR.view s2.r c4
      refine at_v rfl (g_load T rfl rfl rfl rfl (in_view (j := 1) rfl w5 e3 0 rfl)) ?_
      iterate 3 refine at_s T rfl ?_
      refine at_case (s := 16) rfl (fun c5 => ?_) (fun c5 => ?_)
      · replace Z2 := if_t c5 Z2
        refine at_s T rfl ?_
        refine at_v rfl (g_index T rfl rfl rfl rfl rfl e3 c4.1 c4.2) ?_
        refine at_s T rfl ?_
        refine at_v rfl (g_load T rfl rfl rfl rfl (in_view (j := 1) rfl w5 e3 1 rfl)) ?_
        iterate 3 refine at_s T rfl ?_
        refine at_case (s := 23) rfl (fun c6 => ?_) (fun c6 => ?_)
        · replace Z2 := if_t c6 Z2
          refine at_s T rfl ?_
          refine at_v rfl (g_index T rfl rfl rfl rfl rfl e3 c4.1 c4.2) ?_
          refine at_s T rfl ?_
          refine at_v rfl (g_load T rfl rfl rfl rfl (in_view (j := 1) rfl w5 e3 2 rfl)) ?_
          refine at_cons (at_bs (k := (Fl.int .i64)) T [1, 5] rfl rfl rfl rfl rfl rfl rfl rfl rfl (fun a6 H6 s6 => ?_))
          obtain ⟨v4, V7, Z2⟩ := bind_e Z2
          refine at_cons (at_c (B := fun _ => []) [] rfl rfl rfl rfl has48 rfl rfl (ref1_Ints.c ((rd v1 0).Ids) [1, 5] v4 _ V7 (ro_of r4 (j := 1) rfl) m4 (own_of s6 (j := 2) rfl) s6.cap_le) (fun _ => ?_))
          iterate 2 refine at_s T rfl ?_
          refine at_end ?_
          refine at_to [(0, (.bool v4))] [0] [F] ⟨rfl, trivial⟩ rfl ?_
          refine at_then ?_
          obtain rfl := Option.some.inj Z2
          exact at_mid v4 [0] rfl ⟨rfl, trivial⟩ rfl
        · replace Z2 := if_f (bf c6) Z2
          iterate 8 refine at_s T rfl ?_
          refine at_end ?_
          refine at_to [(0, (.bool false))] [0] [F] ⟨rfl, trivial⟩ rfl ?_
          refine at_then ?_
          obtain rfl := Option.some.inj Z2
          exact at_mid false [0] rfl ⟨rfl, trivial⟩ rfl
      · replace Z2 := if_f (bf c5) Z2
        iterate 15 refine at_s T rfl ?_
        refine at_end ?_
        refine at_to [(0, (.bool false))] [0] [F] ⟨rfl, trivial⟩ rfl ?_
        refine at_then ?_
        obtain rfl := Option.some.inj Z2
        exact at_mid false [0] rfl ⟨rfl, trivial⟩ rfl
    · replace Z2 := if_f (bf c3) Z2
      iterate 22 refine at_s T rfl ?_
      refine at_end ?_
      refine at_to [(0, (.bool false))] [0] [F] ⟨rfl, trivial⟩ rfl ?_
      refine at_then ?_
      obtain rfl := Option.some.inj Z2
      exact at_mid false [0] rfl ⟨rfl, trivial⟩ rfl
  · rintro x2 rfl
    refine at_ret ?_
    obtain rfl := Option.some.inj H
    exact at_post (T := T) rfl (.tmp rfl .nil) (fun w o => ⟨(), rfl, own_to [0] rfl o⟩)
end Go.Proofs.Ytmddmofncblfpaa
