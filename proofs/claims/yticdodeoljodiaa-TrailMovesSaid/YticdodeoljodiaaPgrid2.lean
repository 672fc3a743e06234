import Derived.Test.YticdodeoljodiaaPgrid
namespace Go.Proofs.Yticdodeoljodiaa
open Go.Hx
set_option linter.unusedVariables false
set_option linter.unusedSimpArgs false

def inMap (m : api_Map) (c : Int) : Prop := 0 ≤ c ∧ c < m.W * m.H
instance (m : api_Map) (c : Int) : Decidable (inMap m c) := by unfold inMap; infer_instance
end Go.Proofs.Yticdodeoljodiaa
