import Derived.Test.YtmddmofncblfpaaT
import Derived.Test.YtmddmofncblfpaaFunits
namespace Go.Proofs.Ytmddmofncblfpaa
open Go.Hx
set_option maxRecDepth 100000
set_option linter.unusedVariables false
/-! ### herdsman/herdsmanlaw21.told: function 29 -/
def law21_told.f : Option Bool := (units_New.f 1).bind fun v1 => optm v1 (some false) (fun yv1 => (units_Units_Add.f yv1 4 9).bind fun v2 => (units_Units_Add.f v2.2.2 5 9).bind fun v3 => (units_Units_Drop.f v3.2.2 0).bind fun v4 => (units_Units_Add.f v4.2 6 9).bind fun v5 => (if (((((v2.1 == 0) && v2.2.1) && (!v3.2.1)) && (v5.1 == 1)) && v5.2.1) = true then ((units_Units_Len.f v5.2.2).bind fun v8 => if (v8 == 1) = true then ((units_Units_Next.f v5.2.2).bind fun v9 => some (v9 == 2)) else (some false)) else (some false)).bind fun x6 => some x6)
set_option maxHeartbeats 4000000 in
theorem law21_told.c (r : Bool) (F : Hp) (H : law21_told.f = some r) :
    CallsL Try.prog 29 [] [F] (fun _ : Unit => (.bool r)) (fun _ => [F]) := by
  unfold law21_told.f at H
  refine calls_atL [] Try.func29 rfl rfl trivial (fun W => ?_)
  refine at_seq ?_
  refine at_region [0] rfl ?_
  refine at_s T rfl ?_
  refine at_end ?_
  refine at_sub [] trivial ?_
  refine at_then ?_
  refine at_seq ?_
  refine at_region [0, 1] rfl ?_
  obtain ⟨v1, V1, H⟩ := bind_e H
  refine at_cons (at_cR (units_New.R v1) [] [] rfl rfl rfl rfl has26 rfl rfl (units_New.c 1 v1 _ V1) ?_)
  rintro _ _ ⟨_, _, O2, rfl, rfl⟩
  rcases v1 with _ | yv1
  · replace H := optm_n rfl H
    obtain ⟨rfl, rfl⟩ := O2
    refine at_s T rfl ?_
    refine at_end ?_
    refine at_sub [(1, (.pointer none))] ⟨rfl, trivial⟩ ?_
    refine at_then ?_
    refine at_seq ?_
    refine at_seq ?_
    refine at_region [0, 1] rfl ?_
    iterate 2 refine at_s T rfl ?_
    refine at_end ?_
    refine at_sub [(1, (.pointer none)), (10, (.bool true))] ⟨rfl, rfl, trivial⟩ ?_
    refine at_then ?_
    refine at_cond_t rfl ?_
    refine at_seq ?_
    refine at_region [0] rfl ?_
    refine at_s T rfl ?_
    refine at_end ?_
    refine at_sub [(0, (.bool false))] ⟨rfl, trivial⟩ ?_
    refine at_then ?_
    refine at_ret ?_
    refine at_rt ?_
    obtain rfl := Option.some.inj H
    exact at_post (T := T) rfl (.tmp rfl .nil) (fun w o => ⟨(), rfl, own_to [0] rfl o⟩)
  · replace H := optm_s rfl H
    obtain ⟨b1, a2, H2, a3, n3, H3, s2, s3, rfl, rfl⟩ := O2
    refine at_s T rfl ?_
    refine at_end ?_
    refine at_sub [(1, (.pointer (some ⟨b1, 0, none⟩)))] ⟨rfl, trivial⟩ ?_
    refine at_then ?_
    refine at_seq ?_
    refine at_seq ?_
    refine at_region [0, 1] rfl ?_
    iterate 2 refine at_s T rfl ?_
    refine at_end ?_
    refine at_sub [(1, (.pointer (some ⟨b1, 0, none⟩))), (10, (.bool false))] ⟨rfl, rfl, trivial⟩ ?_
    refine at_then ?_
    refine at_cond_f rfl ?_
    refine at_skip ?_
    refine at_then ?_
    refine at_seq ?_
    refine at_region [0, 1, 2, 3, 4, 5, 6] rfl ?_
    refine at_s T rfl ?_
    obtain ⟨v2, V3, H⟩ := bind_e H
    refine at_cons (at_cR (As := [[(b1, Obj.cells #[(.int .i64 yv1.most), (.int .i64 yv1.next), (.map (some a2)), (.slice a3 (List.length yv1.order) n3)] 80 (0, 0))], H2, H3]) (R := [F]) (units_Units_Add.R b1 v2) [] [1, 1, 1] rfl rfl rfl rfl has27 rfl rfl (units_Units_Add.c yv1 4 9 v2 _ V3 s2 s3) ?_)
    rintro _ _ ⟨a4, H4, a5, n5, H5, s4, s5, rfl, rfl⟩
    iterate 5 refine at_s T rfl ?_
    refine at_end ?_
    refine at_sub [(1, (.pointer (some ⟨b1, 0, none⟩))), (2, (.int .i64 v2.1)), (3, (.bool v2.2.1))] ⟨rfl, rfl, rfl, trivial⟩ ?_
    refine at_then ?_
    refine at_seq ?_
    refine at_region [0, 1, 2, 3, 4, 5, 6] rfl ?_
    refine at_s T rfl ?_
    obtain ⟨v3, V4, H⟩ := bind_e H
    refine at_cons (at_cR (As := [[(b1, Obj.cells #[(.int .i64 v2.2.2.most), (.int .i64 v2.2.2.next), (.map (some a4)), (.slice a5 (List.length v2.2.2.order) n5)] 80 (0, 0))], H4, H5]) (R := [F]) (units_Units_Add.R b1 v3) [] [1, 1, 1] rfl rfl rfl rfl has27 rfl rfl (units_Units_Add.c v2.2.2 5 9 v3 _ V4 s4 s5) ?_)
    rintro _ _ ⟨a6, H6, a7, n7, H7, s6, s7, rfl, rfl⟩
    iterate 5 refine at_s T rfl ?_
    refine at_end ?_
    refine at_sub [(1, (.pointer (some ⟨b1, 0, none⟩))), (2, (.int .i64 v2.1)), (3, (.bool v2.2.1)), (5, (.bool v3.2.1))] ⟨rfl, rfl, rfl, rfl, trivial⟩ ?_
    refine at_then ?_
    refine at_seq ?_
    refine at_region [0, 1] rfl ?_
    refine at_s T rfl ?_
    obtain ⟨v4, V5, H⟩ := bind_e H
    refine at_cons (at_cR (As := [[(b1, Obj.cells #[(.int .i64 v3.2.2.most), (.int .i64 v3.2.2.next), (.map (some a6)), (.slice a7 (List.length v3.2.2.order) n7)] 80 (0, 0))], H6, H7]) (R := [F]) (units_Units_Drop.R b1 v4) [] [1, 1, 1] rfl rfl rfl rfl has35 rfl rfl (units_Units_Drop.c v3.2.2 0 v4 _ V5 s6 s7) ?_)
    rintro _ _ ⟨a8, H8, a9, n9, H9, s8, s9, rfl, rfl⟩
    refine at_end ?_
    refine at_sub [(1, (.pointer (some ⟨b1, 0, none⟩))), (2, (.int .i64 v2.1)), (3, (.bool v2.2.1)), (5, (.bool v3.2.1))] ⟨rfl, rfl, rfl, rfl, trivial⟩ ?_
    refine at_then ?_
    refine at_seq ?_
    refine at_region [0, 1, 2, 3, 4, 5, 6] rfl ?_
    refine at_s T rfl ?_
    obtain ⟨v5, V6, H⟩ := bind_e H
    refine at_cons (at_cR (As := [[(b1, Obj.cells #[(.int .i64 v4.2.most), (.int .i64 v4.2.next), (.map (some a8)), (.slice a9 (List.length v4.2.order) n9)] 80 (0, 0))], H8, H9]) (R := [F]) (units_Units_Add.R b1 v5) [] [1, 1, 1] rfl rfl rfl rfl has27 rfl rfl (units_Units_Add.c v4.2 6 9 v5 _ V6 s8 s9) ?_)
    rintro _ _ ⟨a10, H10, a11, n11, H11, s10, s11, rfl, rfl⟩
    iterate 5 refine at_s T rfl ?_
    refine at_end ?_
    refine at_sub [(1, (.pointer (some ⟨b1, 0, none⟩))), (2, (.int .i64 v2.1)), (3, (.bool v2.2.1)), (5, (.bool v3.2.1)), (6, (.int .i64 v5.1)), (7, (.bool v5.2.1))] ⟨rfl, rfl, rfl, rfl, rfl, rfl, trivial⟩ ?_
    refine at_then ?_
    obtain ⟨z7, Z7, H⟩ := bind_e H
    refine at_seq_mid (σ := Bool) (fun x6 => x6 = z7) (fun x6 => [(0, (.bool x6))]) (fun x6 => [F]) ?_ ?_
    · refine at_region [0, 1, 2, 3, 4, 5, 6, 7, 8, 9, 10, 11, 12, 13, 14, 15, 16, 17, 18, 19, 20, 21, 22, 23, 24, 25, 26] rfl ?_
      iterate 3 refine at_s T rfl ?_
      refine at_grp T [3, 4] (s := 30) (c := (v2.1 == 0)) [(1, (.pointer (some ⟨b1, 0, none⟩))), (5, (.bool v3.2.1)), (6, (.int .i64 v5.1)), (7, (.bool v5.2.1)), (32, (.bool ((v2.1 == 0) && v2.2.1)))] rfl rfl rfl (fun c8 => ⟨rfl, rfl, rfl, rfl, (by rw [c8]; rfl), trivial⟩) (fun c8 => ⟨rfl, rfl, rfl, rfl, (by rw [c8]; rfl), trivial⟩) ?_
      refine at_s T rfl ?_
      refine at_grp T [6, 7, 8] (s := 33) (c := ((v2.1 == 0) && v2.2.1)) [(1, (.pointer (some ⟨b1, 0, none⟩))), (6, (.int .i64 v5.1)), (7, (.bool v5.2.1)), (36, (.bool (((v2.1 == 0) && v2.2.1) && (!v3.2.1))))] rfl rfl rfl (fun c9 => ⟨rfl, rfl, rfl, (by rw [c9]; rfl), trivial⟩) (fun c9 => ⟨rfl, rfl, rfl, (by rw [c9]; rfl), trivial⟩) ?_
      refine at_s T rfl ?_
      refine at_grp T [10, 11, 12] (s := 37) (c := (((v2.1 == 0) && v2.2.1) && (!v3.2.1))) [(1, (.pointer (some ⟨b1, 0, none⟩))), (7, (.bool v5.2.1)), (40, (.bool ((((v2.1 == 0) && v2.2.1) && (!v3.2.1)) && (v5.1 == 1))))] rfl rfl rfl (fun c10 => ⟨rfl, rfl, (by rw [c10]; rfl), trivial⟩) (fun c10 => ⟨rfl, rfl, (by rw [c10]; rfl), trivial⟩) ?_
      refine at_s T rfl ?_
      refine at_grp T [14, 15] (s := 41) (c := ((((v2.1 == 0) && v2.2.1) && (!v3.2.1)) && (v5.1 == 1))) [(1, (.pointer (some ⟨b1, 0, none⟩))), (43, (.bool (((((v2.1 == 0) && v2.2.1) && (!v3.2.1)) && (v5.1 == 1)) && v5.2.1)))] rfl rfl rfl (fun c11 => ⟨rfl, (by rw [c11]; rfl), trivial⟩) (fun c11 => ⟨rfl, (by rw [c11]; rfl), trivial⟩) ?_
      refine at_s T rfl ?_
      refine at_case (s := 44) rfl (fun c12 => ?_) (fun c12 => ?_)
      · replace Z7 := if_t c12 Z7
        refine at_s T rfl ?_
        obtain ⟨v8, V13, Z7⟩ := bind_e Z7
        refine at_cons (at_c (As := [[(b1, Obj.cells #[(.int .i64 v5.2.2.most), (.int .i64 v5.2.2.next), (.map (some a10)), (.slice a11 (List.length v5.2.2.order) n11)] 80 (0, 0))], H10, H11]) (R := [F]) (B := fun _ => [[(b1, Obj.cells #[(.int .i64 v5.2.2.most), (.int .i64 v5.2.2.next), (.map (some a10)), (.slice a11 (List.length v5.2.2.order) n11)] 80 (0, 0))], H10, H11]) [1, 1, 1] rfl rfl rfl rfl has39 rfl rfl (units_Units_Len.c v5.2.2 v8 _ V13 s10 s11) (fun _ => ?_))
        iterate 3 refine at_s T rfl ?_
        refine at_case (s := 49) rfl (fun c14 => ?_) (fun c14 => ?_)
        · replace Z7 := if_t c14 Z7
          refine at_s T rfl ?_
          obtain ⟨v9, V15, Z7⟩ := bind_e Z7
          refine at_cons (at_c (As := [[(b1, Obj.cells #[(.int .i64 v5.2.2.most), (.int .i64 v5.2.2.next), (.map (some a10)), (.slice a11 (List.length v5.2.2.order) n11)] 80 (0, 0))], H10, H11]) (R := [F]) (B := fun _ => [[(b1, Obj.cells #[(.int .i64 v5.2.2.most), (.int .i64 v5.2.2.next), (.map (some a10)), (.slice a11 (List.length v5.2.2.order) n11)] 80 (0, 0))], H10, H11]) [1, 1, 1] rfl rfl rfl rfl has40 rfl rfl (units_Units_Next.c v5.2.2 v9 _ V15 s10 s11) (fun _ => ?_))
          iterate 3 refine at_s T rfl ?_
          refine at_end ?_
          refine at_to [(0, (.bool (v9 == 2)))] [0] [F] ⟨rfl, trivial⟩ rfl ?_
          refine at_then ?_
          obtain rfl := Option.some.inj Z7
          exact at_mid (v9 == 2) [0] rfl ⟨rfl, trivial⟩ rfl
        · replace Z7 := if_f (bf c14) Z7
          iterate 5 refine at_s T rfl ?_
          refine at_end ?_
          refine at_to [(0, (.bool false))] [0] [F] ⟨rfl, trivial⟩ rfl ?_
          refine at_then ?_
          obtain rfl := Option.some.inj Z7
          exact at_mid false [0] rfl ⟨rfl, trivial⟩ rfl
      · replace Z7 := if_f (bf c12) Z7
        iterate 10 refine at_s T rfl ?_
        refine at_end ?_
        refine at_to [(0, (.bool false))] [0] [F] ⟨rfl, trivial⟩ rfl ?_
        refine at_then ?_
        obtain rfl := Option.some.inj Z7
        exact at_mid false [0] rfl ⟨rfl, trivial⟩ rfl
    · rintro x6 rfl
      refine at_ret ?_
      obtain rfl := Option.some.inj H
      exact at_post (T := T) rfl (.tmp rfl .nil) (fun w o => ⟨(), rfl, own_to [0] rfl o⟩)
end Go.Proofs.Ytmddmofncblfpaa
