import Derived.Test.YtnkdnecilkafhaaDoorT
namespace Go.Proofs.YtnkdnecilkafhaaDoor
open Go.Hx
set_option maxRecDepth 100000
set_option linter.unusedVariables false
noncomputable section
/-! ### math/bits.Mul64: function 82 -/
def math_bits_Mul64.f (x : Int) (y : Int) : Option (Int × Int) := some ((wu64 ((wu64 ((wu64 ((Int.fdiv x (2 ^ 32)) * (Int.fdiv y (2 ^ 32)))) + (Int.fdiv (wu64 ((wu64 ((Int.fdiv x (2 ^ 32)) * (wu64 (BitVec.toNat (BitVec.ofInt (IntKind.bits .u64) y &&& BitVec.ofInt (IntKind.bits .u64) 4294967295))))) + (Int.fdiv (wu64 ((wu64 (BitVec.toNat (BitVec.ofInt (IntKind.bits .u64) x &&& BitVec.ofInt (IntKind.bits .u64) 4294967295))) * (wu64 (BitVec.toNat (BitVec.ofInt (IntKind.bits .u64) y &&& BitVec.ofInt (IntKind.bits .u64) 4294967295))))) (2 ^ 32)))) (2 ^ 32)))) + (Int.fdiv (wu64 ((wu64 (BitVec.toNat (BitVec.ofInt (IntKind.bits .u64) (wu64 ((wu64 ((Int.fdiv x (2 ^ 32)) * (wu64 (BitVec.toNat (BitVec.ofInt (IntKind.bits .u64) y &&& BitVec.ofInt (IntKind.bits .u64) 4294967295))))) + (Int.fdiv (wu64 ((wu64 (BitVec.toNat (BitVec.ofInt (IntKind.bits .u64) x &&& BitVec.ofInt (IntKind.bits .u64) 4294967295))) * (wu64 (BitVec.toNat (BitVec.ofInt (IntKind.bits .u64) y &&& BitVec.ofInt (IntKind.bits .u64) 4294967295))))) (2 ^ 32)))) &&& BitVec.ofInt (IntKind.bits .u64) 4294967295))) + (wu64 ((wu64 (BitVec.toNat (BitVec.ofInt (IntKind.bits .u64) x &&& BitVec.ofInt (IntKind.bits .u64) 4294967295))) * (Int.fdiv y (2 ^ 32)))))) (2 ^ 32)))), (wu64 (x * y)))
set_option maxHeartbeats 4000000 in
theorem math_bits_Mul64.c (x : Int) (y : Int) (r : (Int × Int)) (F : Hp) (H : math_bits_Mul64.f x y = some r) :
    CallsL Tryd.prog 82 [(.int .u64 x), (.int .u64 y)] [F] (fun _ : Unit => (.tuple #[(.int .u64 r.1), (.int .u64 r.2)])) (fun _ => [F]) := by
  unfold math_bits_Mul64.f at H
  refine calls_atL [(0, (.int .u64 x)), (1, (.int .u64 y))] Tryd.func82 rfl rfl ⟨rfl, rfl, trivial⟩ (fun W => ?_)
  refine at_seq ?_
  refine at_region [0, 1] rfl ?_
  iterate 2 refine at_s T rfl ?_
  refine at_end ?_
  refine at_sub [(0, (.int .u64 x)), (1, (.int .u64 y))] ⟨rfl, rfl, trivial⟩ ?_
  refine at_then ?_
  refine at_seq ?_
  refine at_region [0, 1, 2] rfl ?_
  iterate 3 refine at_s T rfl ?_
  refine at_end ?_
  refine at_sub [(0, (.int .u64 x)), (1, (.int .u64 y)), (6, (.int .u64 (wu64 (BitVec.toNat (BitVec.ofInt (IntKind.bits .u64) x &&& BitVec.ofInt (IntKind.bits .u64) 4294967295)))))] ⟨rfl, rfl, rfl, trivial⟩ ?_
  refine at_then ?_
  refine at_seq ?_
  refine at_region [0, 1, 2] rfl ?_
  iterate 3 refine at_s T rfl ?_
  refine at_end ?_
  refine at_sub [(0, (.int .u64 x)), (1, (.int .u64 y)), (6, (.int .u64 (wu64 (BitVec.toNat (BitVec.ofInt (IntKind.bits .u64) x &&& BitVec.ofInt (IntKind.bits .u64) 4294967295))))), (7, (.int .u64 (Int.fdiv x (2 ^ 32))))] ⟨rfl, rfl, rfl, rfl, trivial⟩ ?_
  refine at_then ?_
  refine at_seq ?_
  refine at_region [0, 1, 2] rfl ?_
  iterate 3 refine at_s T rfl ?_
  refine at_end ?_
  refine at_sub [(0, (.int .u64 x)), (1, (.int .u64 y)), (6, (.int .u64 (wu64 (BitVec.toNat (BitVec.ofInt (IntKind.bits .u64) x &&& BitVec.ofInt (IntKind.bits .u64) 4294967295))))), (7, (.int .u64 (Int.fdiv x (2 ^ 32)))), (8, (.int .u64 (wu64 (BitVec.toNat (BitVec.ofInt (IntKind.bits .u64) y &&& BitVec.ofInt (IntKind.bits .u64) 4294967295)))))] ⟨rfl, rfl, rfl, rfl, rfl, trivial⟩ ?_
  refine at_then ?_
  refine at_seq ?_
  refine at_region [0, 1, 2] rfl ?_
  iterate 3 refine at_s T rfl ?_
  refine at_end ?_
  refine at_sub [(0, (.int .u64 x)), (1, (.int .u64 y)), (6, (.int .u64 (wu64 (BitVec.toNat (BitVec.ofInt (IntKind.bits .u64) x &&& BitVec.ofInt (IntKind.bits .u64) 4294967295))))), (7, (.int .u64 (Int.fdiv x (2 ^ 32)))), (8, (.int .u64 (wu64 (BitVec.toNat (BitVec.ofInt (IntKind.bits .u64) y &&& BitVec.ofInt (IntKind.bits .u64) 4294967295))))), (9, (.int .u64 (Int.fdiv y (2 ^ 32))))] ⟨rfl, rfl, rfl, rfl, rfl, rfl, trivial⟩ ?_
  refine at_then ?_
  refine at_seq ?_
  refine at_region [0, 1, 2, 3] rfl ?_
  iterate 4 refine at_s T rfl ?_
  refine at_end ?_
  refine at_sub [(0, (.int .u64 x)), (1, (.int .u64 y)), (6, (.int .u64 (wu64 (BitVec.toNat (BitVec.ofInt (IntKind.bits .u64) x &&& BitVec.ofInt (IntKind.bits .u64) 4294967295))))), (7, (.int .u64 (Int.fdiv x (2 ^ 32)))), (8, (.int .u64 (wu64 (BitVec.toNat (BitVec.ofInt (IntKind.bits .u64) y &&& BitVec.ofInt (IntKind.bits .u64) 4294967295))))), (9, (.int .u64 (Int.fdiv y (2 ^ 32)))), (10, (.int .u64 (wu64 ((wu64 (BitVec.toNat (BitVec.ofInt (IntKind.bits .u64) x &&& BitVec.ofInt (IntKind.bits .u64) 4294967295))) * (wu64 (BitVec.toNat (BitVec.ofInt (IntKind.bits .u64) y &&& BitVec.ofInt (IntKind.bits .u64) 4294967295)))))))] ⟨rfl, rfl, rfl, rfl, rfl, rfl, rfl, trivial⟩ ?_
  refine at_then ?_
  refine at_seq ?_
  refine at_region [0, 1, 2, 3, 4, 5, 6] rfl ?_
  iterate 7 refine at_s T rfl ?_
  refine at_end ?_
  refine at_sub [(0, (.int .u64 x)), (1, (.int .u64 y)), (6, (.int .u64 (wu64 (BitVec.toNat (BitVec.ofInt (IntKind.bits .u64) x &&& BitVec.ofInt (IntKind.bits .u64) 4294967295))))), (7, (.int .u64 (Int.fdiv x (2 ^ 32)))), (9, (.int .u64 (Int.fdiv y (2 ^ 32)))), (11, (.int .u64 (wu64 ((wu64 ((Int.fdiv x (2 ^ 32)) * (wu64 (BitVec.toNat (BitVec.ofInt (IntKind.bits .u64) y &&& BitVec.ofInt (IntKind.bits .u64) 4294967295))))) + (Int.fdiv (wu64 ((wu64 (BitVec.toNat (BitVec.ofInt (IntKind.bits .u64) x &&& BitVec.ofInt (IntKind.bits .u64) 4294967295))) * (wu64 (BitVec.toNat (BitVec.ofInt (IntKind.bits .u64) y &&& BitVec.ofInt (IntKind.bits .u64) 4294967295))))) (2 ^ 32))))))] ⟨rfl, rfl, rfl, rfl, rfl, rfl, trivial⟩ ?_
  refine at_then ?_
  refine at_seq ?_
  refine at_region [0, 1, 2] rfl ?_
  iterate 3 refine at_s T rfl ?_
  refine at_end ?_
  refine at_sub [(0, (.int .u64 x)), (1, (.int .u64 y)), (6, (.int .u64 (wu64 (BitVec.toNat (BitVec.ofInt (IntKind.bits .u64) x &&& BitVec.ofInt (IntKind.bits .u64) 4294967295))))), (7, (.int .u64 (Int.fdiv x (2 ^ 32)))), (9, (.int .u64 (Int.fdiv y (2 ^ 32)))), (11, (.int .u64 (wu64 ((wu64 ((Int.fdiv x (2 ^ 32)) * (wu64 (BitVec.toNat (BitVec.ofInt (IntKind.bits .u64) y &&& BitVec.ofInt (IntKind.bits .u64) 4294967295))))) + (Int.fdiv (wu64 ((wu64 (BitVec.toNat (BitVec.ofInt (IntKind.bits .u64) x &&& BitVec.ofInt (IntKind.bits .u64) 4294967295))) * (wu64 (BitVec.toNat (BitVec.ofInt (IntKind.bits .u64) y &&& BitVec.ofInt (IntKind.bits .u64) 4294967295))))) (2 ^ 32)))))), (12, (.int .u64 (wu64 (BitVec.toNat (BitVec.ofInt (IntKind.bits .u64) (wu64 ((wu64 ((Int.fdiv x (2 ^ 32)) * (wu64 (BitVec.toNat (BitVec.ofInt (IntKind.bits .u64) y &&& BitVec.ofInt (IntKind.bits .u64) 4294967295))))) + (Int.fdiv (wu64 ((wu64 (BitVec.toNat (BitVec.ofInt (IntKind.bits .u64) x &&& BitVec.ofInt (IntKind.bits .u64) 4294967295))) * (wu64 (BitVec.toNat (BitVec.ofInt (IntKind.bits .u64) y &&& BitVec.ofInt (IntKind.bits .u64) 4294967295))))) (2 ^ 32)))) &&& BitVec.ofInt (IntKind.bits .u64) 4294967295)))))] ⟨rfl, rfl, rfl, rfl, rfl, rfl, rfl, trivial⟩ ?_
  refine at_then ?_
  refine at_seq ?_
  refine at_region [0, 1, 2] rfl ?_
  iterate 3 refine at_s T rfl ?_
  refine at_end ?_
  refine at_sub [(0, (.int .u64 x)), (1, (.int .u64 y)), (6, (.int .u64 (wu64 (BitVec.toNat (BitVec.ofInt (IntKind.bits .u64) x &&& BitVec.ofInt (IntKind.bits .u64) 4294967295))))), (7, (.int .u64 (Int.fdiv x (2 ^ 32)))), (9, (.int .u64 (Int.fdiv y (2 ^ 32)))), (12, (.int .u64 (wu64 (BitVec.toNat (BitVec.ofInt (IntKind.bits .u64) (wu64 ((wu64 ((Int.fdiv x (2 ^ 32)) * (wu64 (BitVec.toNat (BitVec.ofInt (IntKind.bits .u64) y &&& BitVec.ofInt (IntKind.bits .u64) 4294967295))))) + (Int.fdiv (wu64 ((wu64 (BitVec.toNat (BitVec.ofInt (IntKind.bits .u64) x &&& BitVec.ofInt (IntKind.bits .u64) 4294967295))) * (wu64 (BitVec.toNat (BitVec.ofInt (IntKind.bits .u64) y &&& BitVec.ofInt (IntKind.bits .u64) 4294967295))))) (2 ^ 32)))) &&& BitVec.ofInt (IntKind.bits .u64) 4294967295))))), (13, (.int .u64 (Int.fdiv (wu64 ((wu64 ((Int.fdiv x (2 ^ 32)) * (wu64 (BitVec.toNat (BitVec.ofInt (IntKind.bits .u64) y &&& BitVec.ofInt (IntKind.bits .u64) 4294967295))))) + (Int.fdiv (wu64 ((wu64 (BitVec.toNat (BitVec.ofInt (IntKind.bits .u64) x &&& BitVec.ofInt (IntKind.bits .u64) 4294967295))) * (wu64 (BitVec.toNat (BitVec.ofInt (IntKind.bits .u64) y &&& BitVec.ofInt (IntKind.bits .u64) 4294967295))))) (2 ^ 32)))) (2 ^ 32))))] ⟨rfl, rfl, rfl, rfl, rfl, rfl, rfl, trivial⟩ ?_
  refine at_then ?_
  refine at_seq ?_
  refine at_region [0, 1, 2, 3, 4, 5] rfl ?_
  iterate 6 refine at_s T rfl ?_
  refine at_end ?_
  refine at_sub [(0, (.int .u64 x)), (1, (.int .u64 y)), (7, (.int .u64 (Int.fdiv x (2 ^ 32)))), (9, (.int .u64 (Int.fdiv y (2 ^ 32)))), (12, (.int .u64 (wu64 ((wu64 (BitVec.toNat (BitVec.ofInt (IntKind.bits .u64) (wu64 ((wu64 ((Int.fdiv x (2 ^ 32)) * (wu64 (BitVec.toNat (BitVec.ofInt (IntKind.bits .u64) y &&& BitVec.ofInt (IntKind.bits .u64) 4294967295))))) + (Int.fdiv (wu64 ((wu64 (BitVec.toNat (BitVec.ofInt (IntKind.bits .u64) x &&& BitVec.ofInt (IntKind.bits .u64) 4294967295))) * (wu64 (BitVec.toNat (BitVec.ofInt (IntKind.bits .u64) y &&& BitVec.ofInt (IntKind.bits .u64) 4294967295))))) (2 ^ 32)))) &&& BitVec.ofInt (IntKind.bits .u64) 4294967295))) + (wu64 ((wu64 (BitVec.toNat (BitVec.ofInt (IntKind.bits .u64) x &&& BitVec.ofInt (IntKind.bits .u64) 4294967295))) * (Int.fdiv y (2 ^ 32)))))))), (13, (.int .u64 (Int.fdiv (wu64 ((wu64 ((Int.fdiv x (2 ^ 32)) * (wu64 (BitVec.toNat (BitVec.ofInt (IntKind.bits .u64) y &&& BitVec.ofInt (IntKind.bits .u64) 4294967295))))) + (Int.fdiv (wu64 ((wu64 (BitVec.toNat (BitVec.ofInt (IntKind.bits .u64) x &&& BitVec.ofInt (IntKind.bits .u64) 4294967295))) * (wu64 (BitVec.toNat (BitVec.ofInt (IntKind.bits .u64) y &&& BitVec.ofInt (IntKind.bits .u64) 4294967295))))) (2 ^ 32)))) (2 ^ 32))))] ⟨rfl, rfl, rfl, rfl, rfl, rfl, trivial⟩ ?_
  refine at_then ?_
  refine at_seq ?_
  refine at_region [0, 1, 2, 3, 4, 5, 6, 7, 8] rfl ?_
  iterate 9 refine at_s T rfl ?_
  refine at_end ?_
  refine at_sub [(0, (.int .u64 x)), (1, (.int .u64 y)), (4, (.int .u64 (wu64 ((wu64 ((wu64 ((Int.fdiv x (2 ^ 32)) * (Int.fdiv y (2 ^ 32)))) + (Int.fdiv (wu64 ((wu64 ((Int.fdiv x (2 ^ 32)) * (wu64 (BitVec.toNat (BitVec.ofInt (IntKind.bits .u64) y &&& BitVec.ofInt (IntKind.bits .u64) 4294967295))))) + (Int.fdiv (wu64 ((wu64 (BitVec.toNat (BitVec.ofInt (IntKind.bits .u64) x &&& BitVec.ofInt (IntKind.bits .u64) 4294967295))) * (wu64 (BitVec.toNat (BitVec.ofInt (IntKind.bits .u64) y &&& BitVec.ofInt (IntKind.bits .u64) 4294967295))))) (2 ^ 32)))) (2 ^ 32)))) + (Int.fdiv (wu64 ((wu64 (BitVec.toNat (BitVec.ofInt (IntKind.bits .u64) (wu64 ((wu64 ((Int.fdiv x (2 ^ 32)) * (wu64 (BitVec.toNat (BitVec.ofInt (IntKind.bits .u64) y &&& BitVec.ofInt (IntKind.bits .u64) 4294967295))))) + (Int.fdiv (wu64 ((wu64 (BitVec.toNat (BitVec.ofInt (IntKind.bits .u64) x &&& BitVec.ofInt (IntKind.bits .u64) 4294967295))) * (wu64 (BitVec.toNat (BitVec.ofInt (IntKind.bits .u64) y &&& BitVec.ofInt (IntKind.bits .u64) 4294967295))))) (2 ^ 32)))) &&& BitVec.ofInt (IntKind.bits .u64) 4294967295))) + (wu64 ((wu64 (BitVec.toNat (BitVec.ofInt (IntKind.bits .u64) x &&& BitVec.ofInt (IntKind.bits .u64) 4294967295))) * (Int.fdiv y (2 ^ 32)))))) (2 ^ 32))))))] ⟨rfl, rfl, rfl, trivial⟩ ?_
  refine at_then ?_
  refine at_seq ?_
  refine at_region [0, 1, 2, 3] rfl ?_
  iterate 4 refine at_s T rfl ?_
  refine at_end ?_
  refine at_sub [(4, (.int .u64 (wu64 ((wu64 ((wu64 ((Int.fdiv x (2 ^ 32)) * (Int.fdiv y (2 ^ 32)))) + (Int.fdiv (wu64 ((wu64 ((Int.fdiv x (2 ^ 32)) * (wu64 (BitVec.toNat (BitVec.ofInt (IntKind.bits .u64) y &&& BitVec.ofInt (IntKind.bits .u64) 4294967295))))) + (Int.fdiv (wu64 ((wu64 (BitVec.toNat (BitVec.ofInt (IntKind.bits .u64) x &&& BitVec.ofInt (IntKind.bits .u64) 4294967295))) * (wu64 (BitVec.toNat (BitVec.ofInt (IntKind.bits .u64) y &&& BitVec.ofInt (IntKind.bits .u64) 4294967295))))) (2 ^ 32)))) (2 ^ 32)))) + (Int.fdiv (wu64 ((wu64 (BitVec.toNat (BitVec.ofInt (IntKind.bits .u64) (wu64 ((wu64 ((Int.fdiv x (2 ^ 32)) * (wu64 (BitVec.toNat (BitVec.ofInt (IntKind.bits .u64) y &&& BitVec.ofInt (IntKind.bits .u64) 4294967295))))) + (Int.fdiv (wu64 ((wu64 (BitVec.toNat (BitVec.ofInt (IntKind.bits .u64) x &&& BitVec.ofInt (IntKind.bits .u64) 4294967295))) * (wu64 (BitVec.toNat (BitVec.ofInt (IntKind.bits .u64) y &&& BitVec.ofInt (IntKind.bits .u64) 4294967295))))) (2 ^ 32)))) &&& BitVec.ofInt (IntKind.bits .u64) 4294967295))) + (wu64 ((wu64 (BitVec.toNat (BitVec.ofInt (IntKind.bits .u64) x &&& BitVec.ofInt (IntKind.bits .u64) 4294967295))) * (Int.fdiv y (2 ^ 32)))))) (2 ^ 32)))))), (5, (.int .u64 (wu64 (x * y))))] ⟨rfl, rfl, trivial⟩ ?_
  refine at_then ?_
  refine at_ret ?_
  obtain rfl := Option.some.inj H
  exact at_post (T := T) rfl (.tmp rfl (.tmp rfl .nil)) (fun w o => ⟨(), rfl, own_to [0] rfl o⟩)

/-! ### math/bits.Mul: function 79 -/
def math_bits_Mul.f (x : Int) (y : Int) : Option (Int × Int) := (math_bits_Mul64.f x y).bind fun v1 => some (v1.1, v1.2)
set_option maxHeartbeats 4000000 in
theorem math_bits_Mul.c (x : Int) (y : Int) (r : (Int × Int)) (F : Hp) (H : math_bits_Mul.f x y = some r) :
    CallsL Tryd.prog 79 [(.int .u64 x), (.int .u64 y)] [F] (fun _ : Unit => (.tuple #[(.int .u64 r.1), (.int .u64 r.2)])) (fun _ => [F]) := by
  unfold math_bits_Mul.f at H
  refine calls_atL [(0, (.int .u64 x)), (1, (.int .u64 y))] Tryd.func79 rfl rfl ⟨rfl, rfl, trivial⟩ (fun W => ?_)
  refine at_seq ?_
  refine at_region [0, 1] rfl ?_
  iterate 2 refine at_s T rfl ?_
  refine at_end ?_
  refine at_sub [(0, (.int .u64 x)), (1, (.int .u64 y))] ⟨rfl, rfl, trivial⟩ ?_
  refine at_then ?_
  refine at_seq ?_
  refine at_cond_f rfl ?_
  refine at_skip ?_
  refine at_then ?_
  refine at_seq ?_
  refine at_region [0, 1, 2, 3, 4, 5, 6, 7] rfl ?_
  iterate 2 refine at_s T rfl ?_
  obtain ⟨v1, V1, H⟩ := bind_e H
  refine at_cons (at_c (B := fun _ => []) [] rfl rfl rfl rfl has82 rfl rfl (math_bits_Mul64.c x y v1 _ V1) (fun _ => ?_))
  iterate 5 refine at_s T rfl ?_
  refine at_end ?_
  refine at_sub [(8, (.int .u64 v1.1)), (9, (.int .u64 v1.2))] ⟨rfl, rfl, trivial⟩ ?_
  refine at_then ?_
  refine at_seq ?_
  refine at_region [0, 1, 2, 3] rfl ?_
  iterate 4 refine at_s T rfl ?_
  refine at_end ?_
  refine at_sub [(4, (.int .u64 v1.1)), (5, (.int .u64 v1.2))] ⟨rfl, rfl, trivial⟩ ?_
  refine at_then ?_
  refine at_ret ?_
  obtain rfl := Option.some.inj H
  exact at_post (T := T) rfl (.tmp rfl (.tmp rfl .nil)) (fun w o => ⟨(), rfl, own_to [0] rfl o⟩)
end

end Go.Proofs.YtnkdnecilkafhaaDoor
