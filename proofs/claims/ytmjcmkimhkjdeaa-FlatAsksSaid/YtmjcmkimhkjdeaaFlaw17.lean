import Derived.Test.YtmjcmkimhkjdeaaT
import Derived.Test.YtmjcmkimhkjdeaaFflat
import Derived.Test.YtmjcmkimhkjdeaaFref1
namespace Go.Proofs.Ytmjcmkimhkjdeaa
open Go.Hx
set_option maxRecDepth 100000
set_option linter.unusedVariables false
/-! ### herdsman/herdsmanlaw17.told: function 37 -/
def law17_told.f : Option Bool := (flat_Dist.f (api_Map.mk 3 1 [5, 2, 9]) 2).bind fun v1 => (flat_Dirs.f (api_Map.mk 3 1 [5, 2, 9]) 2).bind fun v2 => (if ((v1.2 == 0) && (v2.2 == 0)) = true then ((ref1_Ints.f v1.1 [11, 9, 0]).bind fun v5 => if v5 = true then ((ref1_Ints.f v2.1 [1, 1, 4]).bind fun v6 => some v6) else (some false)) else (some false)).bind fun x3 => some x3
set_option maxHeartbeats 4000000 in
theorem law17_told.c (r : Bool) (F : Hp) (H : law17_told.f = some r) :
    CallsL Try.prog 37 [] [F] (fun _ : Unit => (.bool r)) (fun _ => [F]) := by
  unfold law17_told.f at H
  refine calls_atL [] Try.func37 rfl rfl trivial (fun W => ?_)
  refine at_seq ?_
  refine at_region [0] rfl ?_
  refine at_s T rfl ?_
  refine at_end ?_
  refine at_sub [] trivial ?_
  refine at_then ?_
  refine at_seq ?_
  refine at_region [0, 1, 2, 3, 4, 5, 6, 7] rfl ?_
  refine at_cons (at_bs (k := (Fl.int .u8)) T [5, 2, 9] rfl rfl rfl rfl rfl rfl rfl rfl rfl (fun a1 H1 s1 => ?_))
  refine at_s T rfl ?_
  obtain ⟨v1, V1, H⟩ := bind_e H
  refine at_cons (at_cR (flat_Dist.R v1) [] [] rfl rfl rfl rfl has35 rfl rfl (flat_Dist.c (api_Map.mk 3 1 [5, 2, 9]) 2 v1 _ V1 (own_of s1 (j := 1) rfl) s1.cap_le) ?_)
  rintro _ _ ⟨a2, n2, H2, s2, rfl, rfl⟩
  iterate 5 refine at_s T rfl ?_
  refine at_end ?_
  refine at_to [(1, (.slice a2 (List.length v1.1) n2)), (2, (.int .i64 v1.2))] [0, 1] [F, H2] ⟨rfl, rfl, trivial⟩ rfl ?_
  refine at_then ?_
  refine at_seq ?_
  refine at_region [0, 1, 2, 3, 4, 5, 6, 7] rfl ?_
  refine at_cons (at_bs (k := (Fl.int .u8)) T [5, 2, 9] rfl rfl rfl rfl rfl rfl rfl rfl rfl (fun a3 H3 s3 => ?_))
  refine at_s T rfl ?_
  obtain ⟨v2, V2, H⟩ := bind_e H
  refine at_cons (at_cR (flat_Dirs.R v2) [] [] rfl rfl rfl rfl has38 rfl rfl (flat_Dirs.c (api_Map.mk 3 1 [5, 2, 9]) 2 v2 _ V2 (own_of s3 (j := 2) rfl) s3.cap_le) ?_)
  rintro _ _ ⟨a4, n4, H4, s4, rfl, rfl⟩
  iterate 5 refine at_s T rfl ?_
  refine at_end ?_
  refine at_to [(1, (.slice a2 (List.length v1.1) n2)), (2, (.int .i64 v1.2)), (3, (.slice a4 (List.length v2.1) n4)), (4, (.int .i64 v2.2))] [0, 0, 1] [F, H2, H4] ⟨rfl, rfl, rfl, rfl, trivial⟩ rfl ?_
  refine at_then ?_
  obtain ⟨z4, Z3, H⟩ := bind_e H
  refine at_seq_mid (σ := Bool) (fun x3 => x3 = z4) (fun x3 => [(0, (.bool x3))]) (fun x3 => [F]) ?_ ?_
  · refine at_region [0, 1, 2, 3, 4, 5, 6, 7, 8, 9, 10, 11, 12, 13, 14, 15, 16] rfl ?_
    iterate 3 refine at_s T rfl ?_
    refine at_grp T [3, 4, 5] (s := 19) (c := (v1.2 == 0)) [(1, (.slice a2 (List.length v1.1) n2)), (3, (.slice a4 (List.length v2.1) n4)), (22, (.bool ((v1.2 == 0) && (v2.2 == 0))))] rfl rfl rfl (fun c4 => ⟨rfl, rfl, (by rw [c4]; rfl), trivial⟩) (fun c4 => ⟨rfl, rfl, (by rw [c4]; rfl), trivial⟩) ?_
    refine at_s T rfl ?_
    refine at_case (s := 23) rfl (fun c5 => ?_) (fun c5 => ?_)
    · replace Z3 := if_t c5 Z3
      refine at_s T rfl ?_
      refine at_cons (at_bs (k := (Fl.int .i64)) T [11, 9, 0] rfl rfl rfl rfl rfl rfl rfl rfl rfl (fun a5 H5 s5 => ?_))
      obtain ⟨v5, V6, Z3⟩ := bind_e Z3
      refine at_cons (at_c (B := fun _ => []) [] rfl rfl rfl rfl has41 rfl rfl (ref1_Ints.c v1.1 [11, 9, 0] v5 _ V6 (own_of s2 (j := 1) rfl) s2.cap_le (own_of s5 (j := 3) rfl) s5.cap_le) (fun _ => ?_))
      iterate 2 refine at_s T rfl ?_
      refine at_case (s := 28) rfl (fun c7 => ?_) (fun c7 => ?_)
      · replace Z3 := if_t c7 Z3
        refine at_s T rfl ?_
        refine at_cons (at_bs (k := (Fl.int .i64)) T [1, 1, 4] rfl rfl rfl rfl rfl rfl rfl rfl rfl (fun a6 H6 s6 => ?_))
        obtain ⟨v6, V8, Z3⟩ := bind_e Z3
        refine at_cons (at_c (B := fun _ => []) [] rfl rfl rfl rfl has41 rfl rfl (ref1_Ints.c v2.1 [1, 1, 4] v6 _ V8 (own_of s4 (j := 2) rfl) s4.cap_le (own_of s6 (j := 4) rfl) s6.cap_le) (fun _ => ?_))
        iterate 2 refine at_s T rfl ?_
        refine at_end ?_
        refine at_to [(0, (.bool v6))] [0] [F] ⟨rfl, trivial⟩ rfl ?_
        refine at_then ?_
        obtain rfl := Option.some.inj Z3
        exact at_mid v6 [0] rfl ⟨rfl, trivial⟩ rfl
      · replace Z3 := if_f (bf c7) Z3
        iterate 5 refine at_s T rfl ?_
        refine at_end ?_
        refine at_to [(0, (.bool false))] [0] [F] ⟨rfl, trivial⟩ rfl ?_
        refine at_then ?_
        obtain rfl := Option.some.inj Z3
        exact at_mid false [0] rfl ⟨rfl, trivial⟩ rfl
    · replace Z3 := if_f (bf c5) Z3
      iterate 10 refine at_s T rfl ?_
      refine at_end ?_
      refine at_to [(0, (.bool false))] [0] [F] ⟨rfl, trivial⟩ rfl ?_
      refine at_then ?_
      obtain rfl := Option.some.inj Z3
      exact at_mid false [0] rfl ⟨rfl, trivial⟩ rfl
  · rintro x3 rfl
    refine at_ret ?_
    obtain rfl := Option.some.inj H
    exact at_post (T := T) rfl (.tmp rfl .nil) (fun w o => ⟨(), rfl, own_to [0] rfl o⟩)
end Go.Proofs.Ytmjcmkimhkjdeaa
