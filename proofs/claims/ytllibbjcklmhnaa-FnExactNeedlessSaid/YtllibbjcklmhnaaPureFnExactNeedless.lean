/- The program's Needless returns what the reference's returns, for all arguments. -/
import Derived.Test.YtllibbjcklmhnaaPFnExactNeedlessx1
set_option linter.unusedVariables false
set_option linter.unusedSimpArgs false
namespace Go.Proofs.Ytllibbjcklmhnaa.Pure
open Go.RowKit Go.Proofs.Ytllibbjcklmhnaa.PFnExactNeedless Go.Proofs.YtllibbjcklmhnaaW.PrintWords Go.Proofs.YtllibbjcklmhnaaW.PrintLast

theorem w64 {x : Int} (h : -9223372036854775808 ≤ x) (h' : x ≤ 9223372036854775807) : wrap64 x = x := by unfold wrap64; omega
theorem wf_i64 {a : Int} (h : (Lit.int .i64 a).wf = true) : -9223372036854775808 ≤ a ∧ a ≤ 9223372036854775807 := by
  simpa [Lit.wf, IntKind.min, IntKind.max, IntKind.signed, IntKind.bits] using h
theorem wbt (s : ByteArray) (i : Int) : wrap64 (bt s i) = bt s i := w64 (by have := bt_range s i; omega) (by have := bt_range s i; omega)

def great (c : Int) : Bool := decide (65 ≤ c) && decide (c ≤ 90)
def small (c : Int) : Bool := decide (97 ≤ c) && decide (c ≤ 122)
theorem spec_l16Letter_eq (c : Int) : spec_l16Letter.f c = some (great c || small c) := by
  unfold spec_l16Letter.f great small
  by_cases h1 : 65 ≤ c
  · by_cases h2 : c ≤ 90
    · simp [h1, h2]
    · by_cases h3 : 97 ≤ c
      · simp [h1, h2, h3]
      · simp [h1, h2, h3]
  · have h3 : ¬ (97 ≤ c) := by omega
    simp [h1, h3]
theorem impl_within_eq (a b c : Int) : impl_within.f a b c = some (decide (b ≤ a) && decide (a ≤ c)) := by
  unfold impl_within.f
  by_cases h : b ≤ a <;> simp [h]
theorem impl_isGreat_eq (s : ByteArray) (i : Int) : impl_isGreat.f (bt s i) = some (great (bt s i)) := by
  simp [impl_isGreat.f, wbt, impl_within_eq, great]
theorem impl_isSmall_eq (s : ByteArray) (i : Int) : impl_isSmall.f (bt s i) = some (small (bt s i)) := by
  simp [impl_isSmall.f, wbt, impl_within_eq, small]
/-- A letter that may stand at a place of a name. -/
def letterAt (s : ByteArray) (i : Int) : Bool := great (bt s i) || (small (bt s i) && decide (i ≠ 2))
def nameOk (s : ByteArray) : Bool := (s.size == 4) && letterAt s 0 && letterAt s 1 && letterAt s 2 && letterAt s 3
theorem impl_NameOk_round (s : ByteArray) (hs : s.size ≤ 9223372036854775807) (k : Nat) (i : Int) (h0 : 0 ≤ i) (h1 : i < s.size) :
    impl_NameOk.l0 (k + 1) s s.size i = if letterAt s i = true then impl_NameOk.l0 k s s.size (i + 1) else some false := by
  simp only [impl_NameOk.l0]
  rw [if_pos h1, if_pos h0, if_pos h1, impl_isGreat_eq, impl_isSmall_eq, w64 (by omega) (by omega)]
  simp only [Option.bind_some, letterAt]
  by_cases hg : great (bt s i) = true
  · simp [hg]
  · by_cases hm : small (bt s i) = true
    · by_cases h2 : i = 2
      · simp [hg, hm, h2]
      · simp [hg, hm, h2]
    · simp [hg, hm]
theorem impl_NameOk_end (s : ByteArray) (k : Nat) : impl_NameOk.l0 (k + 1) s s.size s.size = some (s.size == 4) := by
  simp only [impl_NameOk.l0]
  rw [if_neg (by omega)]
  congr 1
  rw [Bool.eq_iff_iff]
  simp
  omega
/-- A name that is not of four bytes is none. -/
theorem impl_NameOk_not4 (s : ByteArray) (hs : s.size ≤ 9223372036854775807) (h4 : s.size ≠ 4) (d : Nat) : ∀ (k : Nat) (i : Int), 0 ≤ i → i ≤ s.size → (s.size : Int) - i = d → d < k → impl_NameOk.l0 k s s.size i = some false := by
  induction d with
  | zero =>
    intro k i h0 h1 hd hk
    obtain ⟨k, rfl⟩ : ∃ m, k = m + 1 := ⟨k - 1, by omega⟩
    have : i = s.size := by omega
    subst this
    rw [impl_NameOk_end]
    simp [h4]
  | succ d ih =>
    intro k i h0 h1 hd hk
    obtain ⟨k, rfl⟩ : ∃ m, k = m + 1 := ⟨k - 1, by omega⟩
    rw [impl_NameOk_round s hs k i h0 (by omega)]
    split
    · exact ih k (i + 1) (by omega) (by omega) (by omega) (by omega)
    · rfl
theorem impl_NameOk_eq (s : ByteArray) (hs : s.size ≤ 9223372036854775807) (k : Nat) (hk : s.size + 5 ≤ k) : impl_NameOk.f k s = some (nameOk s) := by
  unfold impl_NameOk.f nameOk
  by_cases h4 : s.size = 4
  · obtain ⟨k, rfl⟩ : ∃ m, k = m + 5 := ⟨k - 5, by omega⟩
    have r := impl_NameOk_round s hs
    have e := impl_NameOk_end s
    rw [h4] at r e ⊢
    rw [r (k + 4) 0 (by omega) (by omega), r (k + 3) (0 + 1) (by omega) (by omega), r (k + 2) (0 + 1 + 1) (by omega) (by omega), r (k + 1) (0 + 1 + 1 + 1) (by omega) (by omega)]
    have e' : impl_NameOk.l0 (k + 1) s ((4 : Nat) : Int) (0 + 1 + 1 + 1 + 1) = some (4 == 4) := e k
    rw [e']
    simp only [Int.zero_add, show (1 : Int) + 1 = 2 from rfl, show (2 : Int) + 1 = 3 from rfl]
    cases letterAt s 0 <;> cases letterAt s 1 <;> cases letterAt s 2 <;> cases letterAt s 3 <;> rfl
  · rw [impl_NameOk_not4 s hs h4 s.size k 0 (by omega) (by omega) (by omega) (by omega)]
    simp [h4]
theorem spec_NameOk_eq (s : ByteArray) : spec_NameOk.f s = some (nameOk s) := by
  unfold spec_NameOk.f nameOk
  by_cases h4 : s.size = 4
  · simp only [spec_l16Letter_eq, Option.bind_some]
    rw [h4]
    have l0 : letterAt s 0 = (great (bt s 0) || small (bt s 0)) := by simp [letterAt]
    have l1 : letterAt s 1 = (great (bt s 1) || small (bt s 1)) := by simp [letterAt]
    have l3 : letterAt s 3 = (great (bt s 3) || small (bt s 3)) := by simp [letterAt]
    have l2 : letterAt s 2 = great (bt s 2) := by simp [letterAt]
    have q : ((great (bt s 2) || small (bt s 2)) && decide (bt s 2 ≤ 90)) = great (bt s 2) := by
      rw [Bool.eq_iff_iff]; simp [great, small]; omega
    rw [l0, l1, l2, l3]
    cases h0 : (great (bt s 0) || small (bt s 0)) <;> cases h1 : (great (bt s 1) || small (bt s 1)) <;> cases h3 : (great (bt s 3) || small (bt s 3)) <;> cases h2 : (great (bt s 2) || small (bt s 2)) <;> rw [← q, h2] <;> simp
  · rw [if_neg (by omega)]; simp [h4]

theorem FnExactNeedless : laws_FnExactNeedless.Pure := by
  intro s hs
  refine ⟨s.size + 5, ?_⟩
  unfold laws_FnExactNeedless.f spec_Needless.f impl_Needless.f
  rw [spec_NameOk_eq, impl_NameOk_eq s (by omega) _ (Nat.le_refl _)]
  simp only [Option.bind_some, impl_isSmall_eq]
  by_cases h : nameOk s = true
  · have h' := h
    simp only [nameOk, Bool.and_eq_true, beq_iff_eq] at h'
    have e : small (bt s 0) = decide (bt s 0 ≥ 97) := by
      have := h'.1.1.1.2
      rw [Bool.eq_iff_iff]; simp [letterAt, great, small] at this ⊢; omega
    simp [h, h'.1.1.1.1, e]
  · simp [h]

end Go.Proofs.Ytllibbjcklmhnaa.Pure
