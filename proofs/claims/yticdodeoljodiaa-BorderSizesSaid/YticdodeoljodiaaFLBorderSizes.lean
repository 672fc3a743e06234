import Derived.Test.YticdodeoljodiaaT
import Derived.Test.YticdodeoljodiaaFborder
import Derived.Test.YticdodeoljodiaaFlaw11
import Derived.Test.YticdodeoljodiaaFref1
import Derived.Test.YticdodeoljodiaaFref11
namespace Go.Proofs.Yticdodeoljodiaa
open Go.Hx
set_option maxRecDepth 100000
set_option linter.unusedVariables false
/-! ### herdsman/herdsmanlaw11.BorderSizes: function 4 -/
def law11_BorderSizes.f (w : Int) (h : Int) (sector : Int) (raw : Bool) : Option Bool := (if (!raw) = true then ((ref1_Within.f w 1 90).bind fun v5 => (ref1_Within.f h 1 90).bind fun v6 => (ref1_Count.f v5 v6).bind fun v7 => (ref1_Within.f sector (-1) v7).bind fun v8 => some (v5, v6, v8)) else (some (w, h, sector))).bind fun (x1, x2, x3) => (border_Cells.f x1 x2 x3).bind fun v9 => (if raw = true then ((ref1_May.f x1 x2).bind fun v12 => some (!v12)) else (some false)).bind fun x10 => if x10 = true then ((law11_told.f).bind fun v13 => some (v13 && ((List.length v9 : Int) == 0))) else (((law11_told.f).bind fun v16 => if v16 = true then ((ref11_Cells.f x1 x2 x3).bind fun v17 => (ref1_Ints.f v9 v17).bind fun v18 => some v18) else (some false)).bind fun x14 => some x14)
set_option maxHeartbeats 4000000 in
theorem law11_BorderSizes.c (w : Int) (h : Int) (sector : Int) (raw : Bool) (r : Bool) (F : Hp) (H : law11_BorderSizes.f w h sector raw = some r) :
    CallsL Try.prog 4 [(.int .i64 w), (.int .i64 h), (.int .i64 sector), (.bool raw)] [F] (fun _ : Unit => (.bool r)) (fun _ => [F]) := by
  unfold law11_BorderSizes.f at H
  refine calls_atL [(0, (.int .i64 w)), (1, (.int .i64 h)), (2, (.int .i64 sector)), (3, (.bool raw))] Try.func4 rfl rfl ⟨rfl, rfl, rfl, rfl, trivial⟩ (fun W => ?_)
  refine at_seq ?_
  refine at_region [0] rfl ?_
  refine at_s T rfl ?_
  refine at_end ?_
  refine at_sub [(0, (.int .i64 w)), (1, (.int .i64 h)), (2, (.int .i64 sector)), (3, (.bool raw))] ⟨rfl, rfl, rfl, rfl, trivial⟩ ?_
  refine at_then ?_
  obtain ⟨z4, Z1, H⟩ := bind_e H
  refine at_seq_mid (σ := Int × Int × Int) (fun ⟨x1, x2, x3⟩ => (x1, x2, x3) = z4) (fun ⟨x1, x2, x3⟩ => [(0, (.int .i64 x1)), (1, (.int .i64 x2)), (2, (.int .i64 x3)), (3, (.bool raw))]) (fun ⟨x1, x2, x3⟩ => [F]) ?_ ?_
  · refine at_seq ?_
    refine at_region [0, 1] rfl ?_
    iterate 2 refine at_s T rfl ?_
    refine at_end ?_
    refine at_sub [(0, (.int .i64 w)), (1, (.int .i64 h)), (2, (.int .i64 sector)), (3, (.bool raw)), (11, (.bool (!raw)))] ⟨rfl, rfl, rfl, rfl, rfl, trivial⟩ ?_
    refine at_then ?_
    refine at_cond rfl (fun c2 => ?_) (fun c2 => ?_)
    · replace Z1 := if_t c2 Z1
      refine at_seq ?_
      refine at_region [0, 1, 2, 3, 4, 5] rfl ?_
      refine at_s T rfl ?_
      obtain ⟨v5, V3, Z1⟩ := bind_e Z1
      refine at_cons (at_c (B := fun _ => []) [] rfl rfl rfl rfl has15 rfl rfl (ref1_Within.c w 1 90 v5 _ V3) (fun _ => ?_))
      refine at_s T rfl ?_
      obtain ⟨v6, V4, Z1⟩ := bind_e Z1
      refine at_cons (at_c (B := fun _ => []) [] rfl rfl rfl rfl has15 rfl rfl (ref1_Within.c h 1 90 v6 _ V4) (fun _ => ?_))
      iterate 2 refine at_s T rfl ?_
      refine at_end ?_
      refine at_sub [(0, (.int .i64 v5)), (1, (.int .i64 v6)), (2, (.int .i64 sector)), (3, (.bool raw))] ⟨rfl, rfl, rfl, rfl, trivial⟩ ?_
      refine at_then ?_
      refine at_region [0, 1, 2, 3, 4, 5] rfl ?_
      iterate 3 refine at_s T rfl ?_
      obtain ⟨v7, V5, Z1⟩ := bind_e Z1
      refine at_cons (at_c (B := fun _ => []) [] rfl rfl rfl rfl has16 rfl rfl (ref1_Count.c v5 v6 v7 _ V5) (fun _ => ?_))
      obtain ⟨v8, V6, Z1⟩ := bind_e Z1
      refine at_cons (at_c (B := fun _ => []) [] rfl rfl rfl rfl has15 rfl rfl (ref1_Within.c sector (-1) v7 v8 _ V6) (fun _ => ?_))
      refine at_s T rfl ?_
      refine at_end ?_
      refine at_sub [(0, (.int .i64 v5)), (1, (.int .i64 v6)), (2, (.int .i64 v8)), (3, (.bool raw))] ⟨rfl, rfl, rfl, rfl, trivial⟩ ?_
      refine at_then ?_
      obtain rfl := Option.some.inj Z1
      exact at_mid (v5, v6, v8) [0] rfl ⟨rfl, rfl, rfl, rfl, trivial⟩ rfl
    · replace Z1 := if_f (bf c2) Z1
      refine at_skip ?_
      refine at_then ?_
      obtain rfl := Option.some.inj Z1
      exact at_mid (w, h, sector) [0] rfl ⟨rfl, rfl, rfl, rfl, trivial⟩ rfl
  · rintro ⟨x1, x2, x3⟩ rfl
    refine at_seq ?_
    refine at_region [0, 1, 2, 3, 4] rfl ?_
    iterate 3 refine at_s T rfl ?_
    obtain ⟨v9, V7, H⟩ := bind_e H
    refine at_cons (at_cR (border_Cells.R v9) [] [] rfl rfl rfl rfl has21 rfl rfl (border_Cells.c x1 x2 x3 v9 _ V7) ?_)
    rintro _ _ ⟨a1, n1, H1, s1, rfl, rfl⟩
    refine at_s T rfl ?_
    refine at_end ?_
    refine at_sub [(0, (.int .i64 x1)), (1, (.int .i64 x2)), (2, (.int .i64 x3)), (3, (.bool raw)), (9, (.slice a1 (List.length v9) n1))] ⟨rfl, rfl, rfl, rfl, rfl, trivial⟩ ?_
    refine at_then ?_
    refine at_seq ?_
    obtain ⟨z11, Z8, H⟩ := bind_e H
    refine at_seq_mid (σ := Bool) (fun x10 => x10 = z11) (fun x10 => [(0, (.int .i64 x1)), (1, (.int .i64 x2)), (2, (.int .i64 x3)), (9, (.slice a1 (List.length v9) n1)), (31, (.bool x10))]) (fun x10 => [F, H1]) ?_ ?_
    · refine at_region [0, 1, 2, 3, 4, 5, 6] rfl ?_
      iterate 2 refine at_s T rfl ?_
      refine at_case (s := 26) rfl (fun c9 => ?_) (fun c9 => ?_)
      · replace Z8 := if_t c9 Z8
        iterate 2 refine at_s T rfl ?_
        obtain ⟨v12, V10, Z8⟩ := bind_e Z8
        refine at_cons (at_c (B := fun _ => []) [] rfl rfl rfl rfl has30 rfl rfl (ref1_May.c x1 x2 v12 _ V10) (fun _ => ?_))
        iterate 2 refine at_s T rfl ?_
        refine at_end ?_
        refine at_sub [(0, (.int .i64 x1)), (1, (.int .i64 x2)), (2, (.int .i64 x3)), (9, (.slice a1 (List.length v9) n1)), (31, (.bool (!v12)))] ⟨rfl, rfl, rfl, rfl, rfl, trivial⟩ ?_
        refine at_then ?_
        obtain rfl := Option.some.inj Z8
        exact at_mid (!v12) [0, 0] rfl ⟨rfl, rfl, rfl, rfl, rfl, trivial⟩ rfl
      · replace Z8 := if_f (bf c9) Z8
        iterate 5 refine at_s T rfl ?_
        refine at_end ?_
        refine at_sub [(0, (.int .i64 x1)), (1, (.int .i64 x2)), (2, (.int .i64 x3)), (9, (.slice a1 (List.length v9) n1)), (31, (.bool false))] ⟨rfl, rfl, rfl, rfl, rfl, trivial⟩ ?_
        refine at_then ?_
        obtain rfl := Option.some.inj Z8
        exact at_mid false [0, 0] rfl ⟨rfl, rfl, rfl, rfl, rfl, trivial⟩ rfl
    · rintro x10 rfl
      refine at_cond rfl (fun c11 => ?_) (fun c11 => ?_)
      · replace H := if_t c11 H
        refine at_seq ?_
        refine at_region [0, 1, 2, 3, 4, 5, 6] rfl ?_
        obtain ⟨v13, V12, H⟩ := bind_e H
        refine at_cons (at_c (B := fun _ => []) [] rfl rfl rfl rfl has19 rfl rfl (law11_told.c  v13 _ V12) (fun _ => ?_))
        refine at_s T rfl ?_
        refine at_grp T [2, 3, 4, 5] (s := 33) (c := v13) [(37, (.bool (v13 && ((List.length v9 : Int) == 0))))] rfl rfl rfl (fun c13 => ⟨(by rw [c13]; rfl), trivial⟩) (fun c13 => ⟨(by rw [c13]; rfl), trivial⟩) ?_
        refine at_s T rfl ?_
        refine at_end ?_
        refine at_to [(8, (.bool (v13 && ((List.length v9 : Int) == 0))))] [0] [F] ⟨rfl, trivial⟩ rfl ?_
        refine at_then ?_
        refine at_ret ?_
        refine at_rt ?_
        obtain rfl := Option.some.inj H
        exact at_post (T := T) rfl (.tmp rfl .nil) (fun w o => ⟨(), rfl, own_to [0] rfl o⟩)
      · replace H := if_f (bf c11) H
        refine at_skip ?_
        refine at_then ?_
        obtain ⟨z15, Z14, H⟩ := bind_e H
        refine at_seq_mid (σ := Bool) (fun x14 => x14 = z15) (fun x14 => [(8, (.bool x14))]) (fun x14 => [F]) ?_ ?_
        · refine at_region [0, 1, 2, 3, 4, 5, 6, 7, 8, 9] rfl ?_
          obtain ⟨v16, V15, Z14⟩ := bind_e Z14
          refine at_cons (at_c (B := fun _ => []) [] rfl rfl rfl rfl has19 rfl rfl (law11_told.c  v16 _ V15) (fun _ => ?_))
          refine at_s T rfl ?_
          refine at_case (s := 39) rfl (fun c16 => ?_) (fun c16 => ?_)
          · replace Z14 := if_t c16 Z14
            iterate 4 refine at_s T rfl ?_
            obtain ⟨v17, V17, Z14⟩ := bind_e Z14
            refine at_cons (at_cR (ref11_Cells.R v17) [] [] rfl rfl rfl rfl has22 rfl rfl (ref11_Cells.c x1 x2 x3 v17 _ V17) ?_)
            rintro _ _ ⟨a2, n2, H2, s2, rfl, rfl⟩
            obtain ⟨v18, V18, Z14⟩ := bind_e Z14
            refine at_cons (at_c (B := fun _ => []) [] rfl rfl rfl rfl has20 rfl rfl (ref1_Ints.c v9 v17 v18 _ V18 (own_of s1 (j := 1) rfl) s1.cap_le (own_of s2 (j := 2) rfl) s2.cap_le) (fun _ => ?_))
            iterate 2 refine at_s T rfl ?_
            refine at_end ?_
            refine at_to [(8, (.bool v18))] [0] [F] ⟨rfl, trivial⟩ rfl ?_
            refine at_then ?_
            obtain rfl := Option.some.inj Z14
            exact at_mid v18 [0] rfl ⟨rfl, trivial⟩ rfl
          · replace Z14 := if_f (bf c16) Z14
            iterate 8 refine at_s T rfl ?_
            refine at_end ?_
            refine at_to [(8, (.bool false))] [0] [F] ⟨rfl, trivial⟩ rfl ?_
            refine at_then ?_
            obtain rfl := Option.some.inj Z14
            exact at_mid false [0] rfl ⟨rfl, trivial⟩ rfl
        · rintro x14 rfl
          refine at_ret ?_
          obtain rfl := Option.some.inj H
          exact at_post (T := T) rfl (.tmp rfl .nil) (fun w o => ⟨(), rfl, own_to [0] rfl o⟩)
def law11_BorderSizes.Pure : Prop := ∀ (w : Int) (h : Int) (sector : Int) (raw : Bool), inI64 w → inI64 h → inI64 sector → law11_BorderSizes.f w h sector raw = some true
end Go.Proofs.Yticdodeoljodiaa
