import Derived.Test.YtnkdnecilkafhaaDoorPcut
import Derived.Laws.Strings
namespace Go.Proofs.YtnkdnecilkafhaaDoor
open Go.Hx

theorem strB_list (a : List Int) : (strB a).data.toList = a.map fun n => UInt8.ofNat n.toNat := by
  have key : ∀ (a : List Int) (s : ByteArray), (a.foldl (fun s n => s.push (UInt8.ofNat n.toNat)) s).data.toList = s.data.toList ++ a.map fun n => UInt8.ofNat n.toNat := by
    intro a
    induction a with
    | nil => intro s; simp
    | cons x xs ih => intro s; rw [List.foldl_cons, ih]; simp
  unfold strB
  rw [key]
  rfl
theorem strEq_inj {a b : List Int} (ha : ∀ y ∈ a, inU8 y) (hb : ∀ y ∈ b, inU8 y) (h : strEq a b = true) : a = b := by
  unfold strEq at h
  rw [ByteArray.toList_eq, ByteArray.toList_eq, strB_list, strB_list] at h
  have h := eq_of_beq h
  have hl : a.length = b.length := by simpa using congrArg List.length h
  apply List.ext_getElem hl
  intro i h1 h2
  have hi : (a.map fun n => UInt8.ofNat n.toNat)[i]'(by simpa using h1) = (b.map fun n => UInt8.ofNat n.toNat)[i]'(by simpa using h2) := by simp only [h]
  simp only [List.getElem_map] at hi
  have q1 := ha _ (List.getElem_mem h1)
  have q2 := hb _ (List.getElem_mem h2)
  have hn := congrArg UInt8.toNat hi
  unfold inU8 at q1 q2
  rw [UInt8.toNat_ofNat', UInt8.toNat_ofNat'] at hn
  omega
theorem or_add {x y : Nat} (hx : x < 256) : x ||| (y * 256) = x + 256 * y := by
  have := Nat.shiftLeft_add_eq_or_of_lt (b := x) (i := 8) (by omega) y
  rw [Nat.shiftLeft_eq] at this
  have e8 : (2 : Nat) ^ 8 = 256 := by decide
  rw [e8] at this
  rw [Nat.or_comm, ← this]; omega
/-- two bytes, told together -/
theorem hdr {x y : Int} (hx : inU8 x) (hy : inU8 y) : w64 (BitVec.toNat (BitVec.ofInt (IntKind.bits .i64) (w64 x) ||| BitVec.ofInt (IntKind.bits .i64) (w64 ((w64 y) * 2 ^ 8)))) = x + 256 * y := by
  unfold inU8 at hx hy
  rw [w64_id (x := x) (by omega) (by omega), w64_id (x := y) (by omega) (by omega), w64_id (x := y * 2 ^ 8) (by omega) (by omega), BitVec.toNat_or]
  have e : ∀ z : Int, 0 ≤ z → z ≤ 1000000 → (BitVec.ofInt (IntKind.bits .i64) z).toNat = z.toNat := by
    intro z z0 z1
    rw [BitVec.toNat_ofInt]
    show (z % ((2 ^ 64 : Nat) : Int)).toNat = z.toNat
    rw [Int.emod_eq_of_lt z0 (by omega)]
  rw [e x (by omega) (by omega), e (y * 2 ^ 8) (by omega) (by omega)]
  have e2 : (y * 2 ^ 8).toNat = y.toNat * 256 := by omega
  rw [e2, or_add (by omega), w64_id (by omega) (by omega)]; omega
theorem rhdr {x y : Int} (hx : inU8 x) (hy : inU8 y) : w64 ((w64 x) + (w64 (256 * (w64 y)))) = x + 256 * y := by
  unfold inU8 at hx hy
  rw [w64_id (x := x) (by omega) (by omega), w64_id (x := y) (by omega) (by omega), w64_id (x := 256 * y) (by omega) (by omega), w64_id (by omega) (by omega)]
theorem wu8_m {x : Int} : wu8 x = x % 256 := by
  unfold wu8 IntKind.wrap IntKind.signed IntKind.bits
  simp
end Go.Proofs.YtnkdnecilkafhaaDoor
