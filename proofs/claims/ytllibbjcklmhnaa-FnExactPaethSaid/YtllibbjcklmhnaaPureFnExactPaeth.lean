/- The program's Paeth returns what the reference's returns, for all arguments. -/
import Derived.Test.YtllibbjcklmhnaaPFnExactPaethx1
set_option linter.unusedVariables false
set_option linter.unusedSimpArgs false
namespace Go.Proofs.Ytllibbjcklmhnaa.Pure
open Go.RowKit Go.Proofs.Ytllibbjcklmhnaa.PFnExactPaeth Go.Proofs.YtllibbjcklmhnaaW.PrintWords Go.Proofs.YtllibbjcklmhnaaW.PrintLast

theorem w64 {x : Int} (h : -9223372036854775808 ≤ x) (h' : x ≤ 9223372036854775807) : wrap64 x = x := by unfold wrap64; omega
theorem wf_i64 {a : Int} (h : (Lit.int .i64 a).wf = true) : -9223372036854775808 ≤ a ∧ a ≤ 9223372036854775807 := by
  simpa [Lit.wf, IntKind.min, IntKind.max, IntKind.signed, IntKind.bits] using h
theorem wbt (s : ByteArray) (i : Int) : wrap64 (bt s i) = bt s i := w64 (by have := bt_range s i; omega) (by have := bt_range s i; omega)

def absD (x : Int) : Int := if x < 0 then -x else x
def inR (x : Int) : Bool := decide (-1000 ≤ x) && decide (x ≤ 1000)
/-- Paeth of numbers that are not too great. -/
def paeth (a b c : Int) : Int := if absD (b + a - c - a) ≤ absD (a + b - c - b) ∧ absD (b + a - c - a) ≤ absD (a + b - c - c) then a else if absD (a + b - c - b) ≤ absD (a + b - c - c) then b else c
def paethAll (a b c : Int) : Int := if inR a && inR b && inR c then paeth a b c else 0
theorem inR_iff (x : Int) : inR x = true ↔ -1000 ≤ x ∧ x ≤ 1000 := by simp [inR]

theorem spec_l01In_eq (a b c : Int) : spec_l01In.f a b c = some (decide (b ≤ a) && decide (a ≤ c)) := by
  unfold spec_l01In.f
  by_cases h : b ≤ a <;> simp [h]

theorem spec_l13Size_eq (a : Int) (h : -10000 ≤ a) (h' : a ≤ 10000) : spec_l13Size.f a = some (absD a) := by
  unfold spec_l13Size.f absD
  rw [w64 (by omega) (by omega)]
  split <;> rfl
theorem spec_Paeth_eq (k : Nat) (hk : 2 ≤ k) (a b c : Int) : spec_Paeth.f k a b c = some (paethAll a b c) := by
  obtain ⟨k, rfl⟩ : ∃ m, k = m + 2 := ⟨k - 2, by omega⟩
  unfold spec_Paeth.f paethAll
  simp only [spec_l01In_eq, Option.bind_some]
  change (if inR a = true then (if inR b = true then spec_Paeth.j0 (k + 2) a b c (!(inR c)) else spec_Paeth.j0 (k + 2) a b c true) else spec_Paeth.j0 (k + 2) a b c true) = _
  have yes : spec_Paeth.j0 (k + 2) a b c true = some 0 := by simp [spec_Paeth.j0]
  rw [yes]
  by_cases ha : inR a = true
  · by_cases hb : inR b = true
    · by_cases hc : inR c = true
      · simp only [ha, hb, hc, if_true, Bool.not_true, Bool.and_self]
        rw [inR_iff] at ha hb hc
        simp only [spec_Paeth.j0, spec_Paeth.j1]
        rw [w64 (x := a + b) (by omega) (by omega), w64 (x := a + b - c) (by omega) (by omega), w64 (x := a + b - c - a) (by omega) (by omega), w64 (x := a + b - c - b) (by omega) (by omega), w64 (x := a + b - c - c) (by omega) (by omega)]
        rw [spec_l13Size_eq _ (by omega) (by omega), spec_l13Size_eq _ (by omega) (by omega), spec_l13Size_eq _ (by omega) (by omega)]
        simp only [Option.bind_some, paeth, show b + a - c - a = a + b - c - a by omega]
        by_cases h1 : absD (a + b - c - a) ≤ absD (a + b - c - b)
        · by_cases h2 : absD (a + b - c - a) ≤ absD (a + b - c - c)
          · simp [h1, h2]
          · simp [h1, h2]; split <;> rfl
        · simp [h1]; split <;> rfl
      · simp [ha, hb, hc, yes]
    · simp [ha, hb]
  · simp [ha]

theorem impl_within_eq (a b c : Int) : impl_within.f a b c = some (decide (b ≤ a) && decide (a ≤ c)) := by
  unfold impl_within.f
  by_cases h : b ≤ a <;> simp [h]

theorem impl_distance_eq (a b : Int) (ha : -10000 ≤ a) (ha' : a ≤ 10000) (hb : -10000 ≤ b) (hb' : b ≤ 10000) : impl_distance.f a b = some (absD (b - a)) := by
  unfold impl_distance.f absD
  rw [w64 (x := a - b) (by omega) (by omega), w64 (x := b - a) (by omega) (by omega)]
  unfold mx
  split <;> split <;> congr 1 <;> omega
theorem impl_Paeth_l1 (k : Nat) (p x b c : Int) (hp : -10000 ≤ p) (hp' : p ≤ 10000) (hx : -10000 ≤ x) (hx' : x ≤ 10000) (hb : -10000 ≤ b) (hb' : b ≤ 10000) (hc : -10000 ≤ c) (hc' : c ≤ 10000) :
    impl_Paeth.l1 (k + 3) p x [b, c] 2 0 = some (if absD (p - c) < absD (p - (if absD (p - b) < absD (p - x) then b else x)) then c else if absD (p - b) < absD (p - x) then b else x) := by
  have r : ∀ (k : Nat) (y : Int) (i : Int) (z : Int), -10000 ≤ y → y ≤ 10000 → (i = 0 ∧ z = b ∨ i = 1 ∧ z = c) → impl_Paeth.l1 (k + 1) p y [b, c] 2 i = impl_Paeth.l1 k p (if absD (p - z) < absD (p - y) then z else y) [b, c] 2 (i + 1) := by
    intro k y i z hy hy' h
    have hi : 0 ≤ i ∧ i < 2 := by omega
    have hz : rd [b, c] i = z := by rcases h with ⟨rfl, rfl⟩ | ⟨rfl, rfl⟩ <;> rfl
    have hzb : -10000 ≤ z ∧ z ≤ 10000 := by rcases h with ⟨_, rfl⟩ | ⟨_, rfl⟩ <;> omega
    simp only [impl_Paeth.l1]
    rw [if_pos hi.2, if_pos hi.1, if_pos (by simpa using hi.2), hz, impl_distance_eq z p (by omega) (by omega) hp hp', impl_distance_eq y p hy hy' hp hp', w64 (by omega) (by omega)]
    simp only [Option.bind_some]
    split <;> rfl
  rw [r (k + 2) x 0 b hx hx' (.inl ⟨rfl, rfl⟩), r (k + 1) _ (0 + 1) c (by split <;> omega) (by split <;> omega) (.inr ⟨rfl, rfl⟩)]
  simp only [impl_Paeth.l1]
  rw [if_neg (by decide)]
theorem impl_Paeth_eq (k : Nat) (hk : 8 ≤ k) (a b c : Int) : impl_Paeth.f k a b c = some (paethAll a b c) := by
  obtain ⟨k, rfl⟩ : ∃ m, k = m + 8 := ⟨k - 8, by omega⟩
  unfold impl_Paeth.f paethAll
  simp only [Option.bind_some]
  have r : ∀ (k : Nat) (i z : Int), (i = 0 ∧ z = a ∨ i = 1 ∧ z = b ∨ i = 2 ∧ z = c) → impl_Paeth.l0 (k + 1) a b c [a, b, c] 3 i = if inR z = true then impl_Paeth.l0 k a b c [a, b, c] 3 (i + 1) else some 0 := by
    intro k i z h
    have hi : 0 ≤ i ∧ i < 3 := by omega
    have hz : rd [a, b, c] i = z := by rcases h with ⟨rfl, rfl⟩ | ⟨rfl, rfl⟩ | ⟨rfl, rfl⟩ <;> rfl
    simp only [impl_Paeth.l0]
    rw [if_pos hi.2, if_pos hi.1, if_pos (by simpa using hi.2), hz, impl_within_eq, w64 (by omega) (by omega)]
    rfl
  change impl_Paeth.l0 (k + 8) a b c [a, b, c] 3 0 = _
  rw [r (k + 7) 0 a (.inl ⟨rfl, rfl⟩), r (k + 6) (0 + 1) b (.inr (.inl ⟨rfl, rfl⟩)), r (k + 5) (0 + 1 + 1) c (.inr (.inr ⟨rfl, rfl⟩))]
  by_cases ha : inR a = true
  · by_cases hb : inR b = true
    · by_cases hc : inR c = true
      · simp only [ha, hb, hc, if_true, Bool.and_self]
        rw [inR_iff] at ha hb hc
        simp only [impl_Paeth.l0]
        rw [if_neg (by decide)]
        simp only [Option.bind_some]
        rw [w64 (x := a + b) (by omega) (by omega), w64 (x := a + b - c) (by omega) (by omega)]
        have := impl_Paeth_l1 (k + 1) (a + b - c) a b c (by omega) (by omega) (by omega) (by omega) (by omega) (by omega) (by omega) (by omega)
        change impl_Paeth.l1 (k + 4) (a + b - c) a [b, c] 2 0 = _
        rw [this]
        unfold paeth
        rw [show b + a - c - a = a + b - c - a by omega]
        congr 1
        by_cases h1 : absD (a + b - c - b) < absD (a + b - c - a)
        · rw [if_pos h1, if_neg (show ¬ (absD (a + b - c - a) ≤ absD (a + b - c - b) ∧ absD (a + b - c - a) ≤ absD (a + b - c - c)) by omega)]
          by_cases h2 : absD (a + b - c - c) < absD (a + b - c - b)
          · rw [if_pos h2, if_neg (by omega)]
          · rw [if_neg h2, if_pos (by omega)]
        · rw [if_neg h1]
          by_cases h2 : absD (a + b - c - c) < absD (a + b - c - a)
          · rw [if_pos h2, if_neg (by omega), if_neg (by omega)]
          · rw [if_neg h2, if_pos (by omega)]
      · simp [ha, hb, hc]
    · simp [ha, hb]
  · simp [ha]

theorem FnExactPaeth : laws_FnExactPaeth.Pure := by
  intro a b c _ _ _
  refine ⟨8, ?_⟩
  unfold laws_FnExactPaeth.f
  rw [spec_Paeth_eq 8 (by omega), impl_Paeth_eq 8 (by omega)]
  simp

end Go.Proofs.Ytllibbjcklmhnaa.Pure
