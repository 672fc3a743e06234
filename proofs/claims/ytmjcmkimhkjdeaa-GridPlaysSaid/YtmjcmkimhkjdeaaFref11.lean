import Derived.Test.YtmjcmkimhkjdeaaT
import Derived.Test.YtmjcmkimhkjdeaaFref1
namespace Go.Proofs.Ytmjcmkimhkjdeaa
open Go.Hx
set_option maxRecDepth 100000
set_option linter.unusedVariables false
/-! ### herdsman/herdsmanref11.Edited: function 30 -/
def ref11_Edited.f (m : api_Map) (c : Int) (cost : Int) : Option api_Map := (ref1_Own.f m).bind fun v1 => if (0 ≤ c ∧ c < (List.length v1.C : Int)) then (some (api_Map.mk v1.W v1.H (List.set v1.C (Int.toNat c) cost))) else none
def ref11_Edited.R (r : api_Map) (u : Value) (G : List Hp) : Prop := ∃ (a0 : Option Addr) (n0 : Nat) (H0 : Hp), SliceO (Fl.int .u8) 5 r.C a0 n0 H0 ∧ u = (.agg #[(.int .i64 r.W), (.int .i64 r.H), (.slice a0 (List.length r.C) n0)]) ∧ G = [H0]
set_option maxHeartbeats 4000000 in
theorem ref11_Edited.c {a_m_C : Option Addr} {n_m_C : Nat} (m : api_Map) (c : Int) (cost : Int) (r : api_Map) (F : Hp) (H : ref11_Edited.f m c cost = some r) (h_m_C : SliceR (Fl.int .u8) m.C a_m_C F) (c_m_C : List.length m.C ≤ n_m_C) :
    CallsL Try.prog 30 [(.agg #[(.int .i64 m.W), (.int .i64 m.H), (.slice a_m_C (List.length m.C) n_m_C)]), (.int .i64 c), (.int .u8 cost)] [F] (fun p : { p : Value × List Hp // ref11_Edited.R r p.1 p.2 } => p.1.1) (fun p => (p.1.2 ++ []) ++ [F]) := by
  unfold ref11_Edited.f at H
  refine calls_atL [(0, (.agg #[(.int .i64 m.W), (.int .i64 m.H), (.slice a_m_C (List.length m.C) n_m_C)])), (1, (.int .i64 c)), (2, (.int .u8 cost))] Try.func30 rfl rfl ⟨rfl, rfl, rfl, trivial⟩ (fun W => ?_)
  refine at_seq ?_
  refine at_region [0, 1] rfl ?_
  refine at_cons (at_bx T [(.int .i64 m.W), (.int .i64 m.H), (.slice a_m_C (List.length m.C) n_m_C)] rfl rfl rfl rfl (fun b1 => ?_))
  refine at_cons (at_al T [(.int .i64 0), (.int .i64 0), (.slice none 0 0)] rfl rfl rfl rfl (fun b2 => ?_))
  refine at_end ?_
  refine at_sub [(1, (.int .i64 c)), (2, (.int .u8 cost)), (3, (.pointer (some ⟨b1, 0, none⟩))), (6, (.pointer (some ⟨b2, 0, none⟩)))] ⟨rfl, rfl, rfl, rfl, trivial⟩ ?_
  refine at_then ?_
  refine at_seq ?_
  refine at_region [0, 1, 2, 3] rfl ?_
  refine at_v rfl (g_loadA T (cs := [(.int .i64 m.W), (.int .i64 m.H), (.slice a_m_C (List.length m.C) n_m_C)]) rfl rfl rfl rfl rfl rfl (in_varA (j := 1) rfl rfl)) ?_
  obtain ⟨v1, V1, H⟩ := bind_e H
  refine at_cons (at_cR (ref1_Own.R v1) [] [] rfl rfl rfl rfl has24 rfl rfl (ref1_Own.c m v1 _ V1 (ro_of h_m_C (j := 0) rfl) c_m_C) ?_)
  rintro _ _ ⟨a3, n3, H3, s3, rfl, rfl⟩
  refine at_cons (at_al T [(.int .i64 0), (.int .i64 0), (.slice none 0 0)] rfl rfl rfl rfl (fun b4 => ?_))
  refine at_cons (at_st T 4 [(.int .i64 v1.W), (.int .i64 v1.H), (.slice a3 (List.length v1.C) n3)] rfl rfl rfl rfl rfl rfl rfl rfl rfl rfl ?_)
  refine at_end ?_
  refine at_to [(1, (.int .i64 c)), (2, (.int .u8 cost)), (6, (.pointer (some ⟨b2, 0, none⟩))), (7, (.pointer (some ⟨b4, 0, none⟩)))] [0, 1, 1, 1] [F, [(b2, Obj.cells #[(.int .i64 0), (.int .i64 0), (.slice none 0 0)] 25 (0, 0))], H3, [(b4, Obj.cells #[(.int .i64 v1.W), (.int .i64 v1.H), (.slice a3 (List.length v1.C) n3)] 25 (0, 0))]] ⟨rfl, rfl, rfl, rfl, trivial⟩ rfl ?_
  refine at_then ?_
  refine at_seq ?_
  refine at_region [0, 1, 2, 3, 4, 5] rfl ?_
  refine at_s T rfl ?_
  refine at_v rfl (g_load T rfl rfl rfl rfl (in_var (j := 3) rfl rfl)) ?_
  iterate 2 refine at_s T rfl ?_
  obtain ⟨c2, H⟩ := chk_e H
  obtain ⟨q5, o5, e5⟩ := s3.r.addr c2.1 c2.2
  refine at_v rfl (g_index T rfl rfl rfl rfl rfl e5 c2.1 c2.2) ?_
  refine at_cons (at_se (k := (Fl.int .u8)) T 2 0 cost rfl rfl rfl rfl rfl rfl s3 e5 c2 rfl rfl rfl (fun H6 s6 => ?_))
  refine at_to [(6, (.pointer (some ⟨b2, 0, none⟩))), (7, (.pointer (some ⟨b4, 0, none⟩)))] [0, 0, 0, 0] [F, [(b2, Obj.cells #[(.int .i64 0), (.int .i64 0), (.slice none 0 0)] 25 (0, 0))], H6, [(b4, Obj.cells #[(.int .i64 v1.W), (.int .i64 v1.H), (.slice a3 (List.length (List.set v1.C (Int.toNat c) cost)) n3)] 25 (0, 0))]] ⟨rfl, rfl, trivial⟩ (by first | rfl | (simp only [List.length_set]; rfl)) ?_
  refine at_end ?_
  refine at_sub [(6, (.pointer (some ⟨b2, 0, none⟩))), (7, (.pointer (some ⟨b4, 0, none⟩)))] ⟨rfl, rfl, trivial⟩ ?_
  refine at_then ?_
  refine at_seq ?_
  refine at_region [0, 1] rfl ?_
  refine at_v rfl (g_loadA T (cs := [(.int .i64 v1.W), (.int .i64 v1.H), (.slice a3 (List.length (List.set v1.C (Int.toNat c) cost)) n3)]) rfl rfl rfl rfl rfl rfl (in_varA (j := 3) rfl rfl)) ?_
  refine at_cons (at_st T 1 [(.int .i64 v1.W), (.int .i64 v1.H), (.slice a3 (List.length (List.set v1.C (Int.toNat c) cost)) n3)] rfl rfl rfl rfl rfl rfl rfl rfl rfl rfl ?_)
  refine at_end ?_
  refine at_to [(6, (.pointer (some ⟨b2, 0, none⟩)))] [0, 0, 0] [F, [(b2, Obj.cells #[(.int .i64 v1.W), (.int .i64 v1.H), (.slice a3 (List.length (List.set v1.C (Int.toNat c) cost)) n3)] 25 (0, 0))], H6] ⟨rfl, trivial⟩ rfl ?_
  refine at_then ?_
  refine at_ret ?_
  obtain rfl := Option.some.inj H
  exact at_post (T := T) rfl (.aggv (j := 1) [(.int .i64 v1.W), (.int .i64 v1.H), (.slice a3 (List.length (List.set v1.C (Int.toNat c) cost)) n3)] rfl rfl rfl rfl rfl rfl rfl .nil) (fun w o => ⟨⟨(_, _), ⟨a3, n3, H6, s6, rfl, rfl⟩⟩, rfl, own_to [2, 0] rfl o⟩)
end Go.Proofs.Ytmjcmkimhkjdeaa
