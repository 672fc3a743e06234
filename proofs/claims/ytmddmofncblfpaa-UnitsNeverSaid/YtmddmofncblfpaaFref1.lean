import Derived.Test.YtmddmofncblfpaaT
namespace Go.Proofs.Ytmddmofncblfpaa
open Go.Hx
set_option maxRecDepth 100000
set_option linter.unusedVariables false
/-! ### herdsman/herdsmanref1.Within: function 15 -/
def ref1_Within.f (n : Int) (lo : Int) (hi : Int) : Option Int := if (¬ (w64 ((w64 (hi - lo)) + 1)) = 0) then (if (Int.tmod n (w64 ((w64 (hi - lo)) + 1))) < 0 then (some (w64 (lo + (w64 ((w64 ((w64 ((Int.tmod n (w64 ((w64 (hi - lo)) + 1))) + hi)) - lo)) + 1))))) else (some (w64 (lo + (Int.tmod n (w64 ((w64 (hi - lo)) + 1))))))) else none
set_option maxHeartbeats 4000000 in
theorem ref1_Within.c (n : Int) (lo : Int) (hi : Int) (r : Int) (F : Hp) (H : ref1_Within.f n lo hi = some r) :
    CallsL Try.prog 15 [(.int .i64 n), (.int .i64 lo), (.int .i64 hi)] [F] (fun _ : Unit => (.int .i64 r)) (fun _ => [F]) := by
  unfold ref1_Within.f at H
  refine calls_atL [(0, (.int .i64 n)), (1, (.int .i64 lo)), (2, (.int .i64 hi))] Try.func15 rfl rfl ⟨rfl, rfl, rfl, trivial⟩ (fun W => ?_)
  refine at_seq ?_
  refine at_region [0] rfl ?_
  refine at_s T rfl ?_
  refine at_end ?_
  refine at_sub [(0, (.int .i64 n)), (1, (.int .i64 lo)), (2, (.int .i64 hi))] ⟨rfl, rfl, rfl, trivial⟩ ?_
  refine at_then ?_
  refine at_seq ?_
  refine at_region [0, 1, 2, 3, 4, 5, 6] rfl ?_
  iterate 5 refine at_s T rfl ?_
  obtain ⟨c1, H⟩ := chk_e H
  refine at_v rfl (g_rem rfl rfl rfl c1) ?_
  refine at_s T rfl ?_
  refine at_end ?_
  refine at_sub [(0, (.int .i64 (Int.tmod n (w64 ((w64 (hi - lo)) + 1))))), (1, (.int .i64 lo)), (2, (.int .i64 hi))] ⟨rfl, rfl, rfl, trivial⟩ ?_
  refine at_then ?_
  refine at_seq ?_
  refine at_seq ?_
  refine at_region [0, 1] rfl ?_
  iterate 2 refine at_s T rfl ?_
  refine at_end ?_
  refine at_sub [(0, (.int .i64 (Int.tmod n (w64 ((w64 (hi - lo)) + 1))))), (1, (.int .i64 lo)), (2, (.int .i64 hi)), (14, (.bool (decide ((Int.tmod n (w64 ((w64 (hi - lo)) + 1))) < 0))))] ⟨rfl, rfl, rfl, rfl, trivial⟩ ?_
  refine at_then ?_
  refine at_cond rfl (fun c2 => ?_) (fun c2 => ?_)
  · replace H := if_t (of_decide_eq_true c2) H
    refine at_region [0, 1, 2, 3, 4, 5, 6] rfl ?_
    iterate 7 refine at_s T rfl ?_
    refine at_end ?_
    refine at_sub [(0, (.int .i64 (w64 ((w64 ((w64 ((Int.tmod n (w64 ((w64 (hi - lo)) + 1))) + hi)) - lo)) + 1)))), (1, (.int .i64 lo))] ⟨rfl, rfl, trivial⟩ ?_
    refine at_then ?_
    refine at_seq ?_
    refine at_region [0, 1, 2, 3] rfl ?_
    iterate 4 refine at_s T rfl ?_
    refine at_end ?_
    refine at_sub [(6, (.int .i64 (w64 (lo + (w64 ((w64 ((w64 ((Int.tmod n (w64 ((w64 (hi - lo)) + 1))) + hi)) - lo)) + 1))))))] ⟨rfl, trivial⟩ ?_
    refine at_then ?_
    refine at_ret ?_
    obtain rfl := Option.some.inj H
    exact at_post (T := T) rfl (.tmp rfl .nil) (fun w o => ⟨(), rfl, own_to [0] rfl o⟩)
  · replace H := if_f (of_decide_eq_false c2) H
    refine at_skip ?_
    refine at_then ?_
    refine at_seq ?_
    refine at_region [0, 1, 2, 3] rfl ?_
    iterate 4 refine at_s T rfl ?_
    refine at_end ?_
    refine at_sub [(6, (.int .i64 (w64 (lo + (Int.tmod n (w64 ((w64 (hi - lo)) + 1)))))))] ⟨rfl, trivial⟩ ?_
    refine at_then ?_
    refine at_ret ?_
    obtain rfl := Option.some.inj H
    exact at_post (T := T) rfl (.tmp rfl .nil) (fun w o => ⟨(), rfl, own_to [0] rfl o⟩)
end Go.Proofs.Ytmddmofncblfpaa
