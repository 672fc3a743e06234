import Derived.Test.YtkidcebfpengmaaFfloor
namespace Go.Proofs.Ytkidcebfpengmaa
open Go.Hx
set_option linter.unusedVariables false
set_option linter.unusedSimpArgs false

/-- a floor of n cells: what each tells is a number and one, or nothing -/
def FloorS (n : Int) (f : floor_Floor) : Prop := (f.words.length : Int) = n ∧ ∀ c, 0 ≤ c → c < n → 0 ≤ rd f.words c ∧ rd f.words c ≤ 4294967295
def fWho (n : Int) (f : floor_Floor) (c : Int) : Int := if 0 ≤ c ∧ c < n then rd f.words c - 1 else -1
def fFree (n : Int) (f : floor_Floor) (c : Int) : Prop := 0 ≤ c ∧ c < n ∧ rd f.words c = 0
instance (n : Int) (f : floor_Floor) (c : Int) : Decidable (fFree n f c) := by unfold fFree; infer_instance
def fSet (f : floor_Floor) (c v k : Int) : floor_Floor := floor_Floor.mk (List.set f.words (Int.toNat c) v) (f.count + k)

theorem fnew_f (n : Int) : floor_New.f n = some (if 1 ≤ n ∧ n ≤ 1048576 then some (floor_Floor.mk (List.replicate n.toNat 0) 0) else none) := by
  unfold floor_New.f
  by_cases h : 1 ≤ n ∧ n ≤ 1048576
  · rw [if_neg (by simp; omega), if_pos h, if_pos (by omega)]
  · rw [if_pos (by simp; omega), if_neg h]
theorem fnew_s {n : Int} (h : 1 ≤ n) : FloorS n (floor_Floor.mk (List.replicate n.toNat 0) 0) := by
  refine ⟨by simp; omega, fun c c0 c1 => ?_⟩
  rw [rdrep c0 (by omega)]; omega
variable {n : Int} {f : floor_Floor}
theorem fis_f (hf : FloorS n f) (c : Int) : floor_Floor_is.f f c = some (decide (0 ≤ c ∧ c < n)) := by
  unfold floor_Floor_is.f
  rw [hf.1]
  by_cases h : 0 ≤ c
  · rw [if_pos (by omega)]; simp [h]
  · rw [if_neg (by omega)]; simp [h]
theorem free_f (hf : FloorS n f) (c : Int) : floor_Floor_free.f f c = some (decide (fFree n f c)) := by
  unfold floor_Floor_free.f
  rw [fis_f hf, hf.1]
  by_cases h : 0 ≤ c ∧ c < n
  · by_cases q : rd f.words c = 0
    · have : fFree n f c := ⟨h.1, h.2, q⟩
      simp [h, q, this]
    · have : ¬ fFree n f c := fun z => q z.2.2
      simp [h, q, this]
  · have : ¬ fFree n f c := fun z => h ⟨z.1, z.2.1⟩
    simp [h, this]
theorem who_f (hf : FloorS n f) (c : Int) : floor_Floor_Who.f f c = some (fWho n f c) := by
  unfold floor_Floor_Who.f fWho
  rw [fis_f hf, hf.1]
  by_cases h : 0 ≤ c ∧ c < n
  · have := hf.2 c h.1 h.2
    simp only [Option.bind_some, decide_eq_true h, Bool.not_true, Bool.false_eq_true, if_false, if_pos h]
    rw [wi (x := rd f.words c) (by omega) (by omega), wi (by omega) (by omega)]
  · simp only [Option.bind_some, decide_eq_false h, Bool.not_false, if_true, if_neg h]
theorem set_s (hf : FloorS n f) {c v k : Int} (h0 : 0 ≤ c) (h1 : c < n) (v0 : 0 ≤ v) (v1 : v ≤ 4294967295) : FloorS n (fSet f c v k) := by
  refine ⟨by simp [fSet, hf.1], fun d d0 d1 => ?_⟩
  unfold fSet
  simp only
  rw [rds h0 (by rw [hf.1]; exact h1) d0]
  split
  · exact ⟨v0, v1⟩
  · exact hf.2 d d0 d1
theorem rd_fset (hf : FloorS n f) {c v k d : Int} (h0 : 0 ≤ c) (h1 : c < n) (d0 : 0 ≤ d) : rd (fSet f c v k).words d = if d = c then v else rd f.words d := by
  unfold fSet; simp only
  rw [rds h0 (by rw [hf.1]; exact h1) d0]
def fPut (n : Int) (f : floor_Floor) (c id : Int) : Bool × floor_Floor := if fFree n f c ∧ 0 ≤ id ∧ id < 4294967295 then (true, fSet f c (id + 1) 1) else (false, f)
def fTake (n : Int) (f : floor_Floor) (c : Int) : Int × floor_Floor := if fWho n f c = -1 then (-1, f) else (fWho n f c, fSet f c 0 (-1))
theorem put_f (hf : FloorS n f) (hc : 0 ≤ f.count ∧ f.count ≤ 2000000) (c id : Int) : floor_Floor_Put.f f c id = some (fPut n f c id) := by
  unfold floor_Floor_Put.f fPut
  rw [free_f hf]
  by_cases h : fFree n f c
  · by_cases h2 : 0 ≤ id ∧ id < 4294967295
    · obtain ⟨q1, q2, q3⟩ := h
      have h : fFree n f c := ⟨q1, q2, q3⟩
      simp only [Option.bind_some, decide_eq_true h, Bool.not_true]
      rw [if_neg (by simp; omega), if_pos (by rw [hf.1]; omega), if_pos ⟨h, h2⟩, wi (x := id + 1) (by omega) (by omega), w32i (by omega) (by omega), wi (by omega) (by omega)]
      rfl
    · simp only [Option.bind_some, decide_eq_true h, Bool.not_true]
      rw [if_pos (by simp; omega), if_neg (fun q => h2 q.2)]
  · simp only [Option.bind_some, decide_eq_false h, Bool.not_false, Bool.true_or, if_true]
    rw [if_neg (fun q => h q.1)]
theorem take_f (hf : FloorS n f) (hc : -2000000 ≤ f.count ∧ f.count ≤ 2000000) (c : Int) : floor_Floor_Take.f f c = some (fTake n f c) := by
  unfold floor_Floor_Take.f fTake
  rw [who_f hf]
  by_cases h : fWho n f c = -1
  · simp [h]
  · have hin : 0 ≤ c ∧ c < n := by
      unfold fWho at h
      by_cases q : 0 ≤ c ∧ c < n
      · exact q
      · rw [if_neg q] at h; exact absurd rfl h
    simp only [Option.bind_some]
    rw [if_pos (by simpa using h), if_pos (by rw [hf.1]; omega), if_neg h, wi (by omega) (by omega)]
    rfl
def fShift (n : Int) (f : floor_Floor) (a b : Int) : Bool × floor_Floor := if fWho n f a ≠ -1 ∧ fFree n f b then (true, fSet (fSet f a 0 (-1)) b (fWho n f a + 1) 1) else (false, f)
theorem who_in {c : Int} (h : fWho n f c ≠ -1) : 0 ≤ c ∧ c < n ∧ fWho n f c = rd f.words c - 1 := by
  unfold fWho at h ⊢
  by_cases q : 0 ≤ c ∧ c < n
  · rw [if_pos q]; exact ⟨q.1, q.2, rfl⟩
  · rw [if_neg q] at h; exact absurd rfl h
theorem shift_f (hf : FloorS n f) (hc : 1 ≤ f.count ∧ f.count ≤ 2000000) (a b : Int) : floor_Floor_Shift.f f a b = some (fShift n f a b) := by
  unfold floor_Floor_Shift.f fShift
  rw [who_f hf, free_f hf]
  by_cases h1 : fWho n f a = -1
  · simp [h1]
  · by_cases h2 : fFree n f b
    · obtain ⟨a0, a1, a2⟩ := who_in h1
      have hr := hf.2 a a0 a1
      have hs : FloorS n (fSet f a 0 (-1)) := set_s hf a0 a1 (by omega) (by omega)
      have hne : b ≠ a := fun e => by have := h2.2.2; rw [e] at this; omega
      have h3 : fFree n (fSet f a 0 (-1)) b := ⟨h2.1, h2.2.1, by rw [rd_fset hf a0 a1 h2.1, if_neg hne]; exact h2.2.2⟩
      have e : fTake n f a = (fWho n f a, fSet f a 0 (-1)) := by unfold fTake; rw [if_neg h1]
      have e2 : fPut n (fSet f a 0 (-1)) b (fWho n f a) = (true, fSet (fSet f a 0 (-1)) b (fWho n f a + 1) 1) := by
        unfold fPut; rw [if_pos ⟨h3, by omega, by omega⟩]
      have q1 : (fWho n f a == -1) = false := by simpa using h1
      simp only [Option.bind_some, q1, Bool.false_eq_true, if_false, decide_eq_true h2, Bool.not_true, take_f hf (by omega : -2000000 ≤ f.count ∧ f.count ≤ 2000000), e]
      rw [put_f hs (by simp [fSet]; omega), e2, if_pos ⟨h1, h2⟩]; rfl
    · simp [h1, h2]
theorem words_f (hf : FloorS n f) (h : n ≤ 1048576) : floor_Floor_Words.f f = some f.words := by
  unfold floor_Floor_Words.f slices_Clone_uint32_uint32.f
  have := hf.1
  rw [if_pos (by simp; omega)]; simp
end Go.Proofs.Ytkidcebfpengmaa
