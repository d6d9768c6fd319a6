/- The program's HeadOk returns what the reference's returns, for all arguments. -/
import Derived.Test.YtllibbjcklmhnaaPFnExactHeadOkx1
set_option linter.unusedVariables false
set_option linter.unusedSimpArgs false
namespace Go.Proofs.Ytllibbjcklmhnaa.Pure
open Go.RowKit Go.Proofs.Ytllibbjcklmhnaa.PFnExactHeadOk Go.Proofs.YtllibbjcklmhnaaW.PrintWords Go.Proofs.YtllibbjcklmhnaaW.PrintLast

theorem w64 {x : Int} (h : -9223372036854775808 ≤ x) (h' : x ≤ 9223372036854775807) : wrap64 x = x := by unfold wrap64; omega
theorem wf_i64 {a : Int} (h : (Lit.int .i64 a).wf = true) : -9223372036854775808 ≤ a ∧ a ≤ 9223372036854775807 := by
  simpa [Lit.wf, IntKind.min, IntKind.max, IntKind.signed, IntKind.bits] using h
theorem wbt (s : ByteArray) (i : Int) : wrap64 (bt s i) = bt s i := w64 (by have := bt_range s i; omega) (by have := bt_range s i; omega)

def sideB (n : Int) : Bool := decide (1 ≤ n) && decide (n ≤ 24)
theorem sideB_iff (n : Int) : sideB n = true ↔ 1 ≤ n ∧ n ≤ 24 := by simp [sideB]

def smallD (d : Int) : Bool := d == 1 || d == 2 || d == 4
def bigD (d : Int) : Bool := d == 8 || d == 16
def dok (c d : Int) : Bool := if c = 0 then smallD d || bigD d else if c = 3 then smallD d || d == 8 else if c = 2 then bigD d else if c = 4 then bigD d else if c = 6 then bigD d else false
theorem some_or (a b : Bool) : (if a = true then some true else some b) = some (a || b) := by cases a <;> rfl
theorem spec_DepthOk_eq (k : Nat) (hk : 1 ≤ k) (c d : Int) : spec_DepthOk.f k c d = some (dok c d) := by
  obtain ⟨k, rfl⟩ : ∃ m, k = m + 1 := ⟨k - 1, by omega⟩
  have e : ∀ x : Bool, spec_DepthOk.j0 (k + 1) c d x = some (if c = 0 then x || bigD d else if c = 3 then x || d == 8 else if c = 2 then bigD d else if c = 4 then bigD d else if c = 6 then bigD d else false) := by
    intro x
    have h8 : (if d = 8 then some true else some (d == 16)) = some (bigD d) := by unfold bigD; by_cases h : d = 8 <;> simp [h]
    simp only [spec_DepthOk.j0, h8, some_or]
    repeat (first | rfl | split)
  simp only [spec_DepthOk.f, e, dok, smallD]
  by_cases h1 : d = 1
  · simp [h1]
  by_cases h2 : d = 2
  · simp [h2]
  · have e1 : (d == 1) = false := by simpa using h1
    have e2 : (d == 2) = false := by simpa using h2
    simp only [h1, h2, e1, e2, if_false, Bool.false_or]

def headB (w h d c : Int) : Bool := sideB w && sideB h && dok c d

theorem spec_l01In_eq (a b c : Int) : spec_l01In.f a b c = some (decide (b ≤ a) && decide (a ≤ c)) := by
  unfold spec_l01In.f
  by_cases h : b ≤ a <;> simp [h]

theorem spec_l12Side_eq (n : Int) : spec_l12Side.f n = some (sideB n) := by simp [spec_l12Side.f, spec_l01In_eq, sideB]

theorem spec_HeadOk_eq (k : Nat) (hk : 1 ≤ k) (w h d c : Int) (l : Bool) : spec_HeadOk.f k w h d c l = some (headB w h d c) := by
  unfold spec_HeadOk.f headB
  simp only [spec_l12Side_eq, spec_DepthOk_eq k hk, Option.bind_some]
  cases sideB w <;> cases sideB h <;> simp

theorem impl_within_eq (a b c : Int) : impl_within.f a b c = some (decide (b ≤ a) && decide (a ≤ c)) := by
  unfold impl_within.f
  by_cases h : b ≤ a <;> simp [h]

theorem impl_isSide_eq (n : Int) : impl_isSide.f n = some (sideB n) := by simp [impl_isSide.f, impl_within_eq, sideB]

def chan (c : Int) : Int := if c = 0 then 1 else if c = 3 then 1 else if c = 2 then 3 else if c = 4 then 2 else if c = 6 then 4 else 0

theorem impl_ChannelsOf_eq (k : Nat) (hk : 1 ≤ k) (c : Int) : impl_ChannelsOf.f k c = some (chan c) := by
  obtain ⟨k, rfl⟩ : ∃ m, k = m + 1 := ⟨k - 1, by omega⟩
  simp only [impl_ChannelsOf.f, impl_ChannelsOf.j0, chan]
  by_cases h0 : c = 0
  · simp [h0]
  · by_cases h3 : c = 3
    · simp [h3]
    · by_cases h2 : c = 2
      · simp [h2]
      · by_cases h4 : c = 4
        · simp [h4]
        · simp [h0, h3, h2, h4]; repeat (first | split | rfl)

theorem impl_isDepth_eq (d : Int) : impl_isDepth.f d = some (smallD d || bigD d) := by
  simp only [impl_isDepth.f, smallD, bigD]
  by_cases h1 : d = 1
  · simp [h1]
  by_cases h2 : d = 2
  · simp [h2]
  by_cases h4 : d = 4
  · simp [h4]
  by_cases h8 : d = 8
  · simp [h8]
  · have e1 : (d == 1) = false := by simpa using h1
    have e2 : (d == 2) = false := by simpa using h2
    have e4 : (d == 4) = false := by simpa using h4
    have e8 : (d == 8) = false := by simpa using h8
    simp only [h1, h2, h4, h8, e1, e2, e4, e8, if_false, Bool.false_or]
theorem impl_DepthOk_eq (k : Nat) (hk : 1 ≤ k) (c d : Int) : impl_DepthOk.f k c d = some (dok c d) := by
  have h8 : (if d = 8 then some true else some (d == 16)) = some (bigD d) := by unfold bigD; by_cases h : d = 8 <;> simp [h]
  simp only [impl_DepthOk.f, impl_isDepth_eq, impl_ChannelsOf_eq k hk, Option.bind_some, dok, h8]
  by_cases h0 : c = 0
  · simp [h0]
  by_cases h3 : c = 3
  · subst h3
    simp only [show ¬ ((3 : Int) = 0) by decide, if_true, if_false]
    unfold smallD bigD
    by_cases h1 : d = 1
    · simp [h1]
    by_cases h2 : d = 2
    · simp [h2]
    by_cases h4 : d = 4
    · simp [h4]
    by_cases h8 : d = 8
    · simp [h8]
    by_cases h16 : d = 16
    · simp [h16]
    · simp [h1, h2, h4, h8, h16]
  · simp only [h0, h3, chan, if_false]
    by_cases h2 : c = 2
    · simp [h2]
    by_cases h4 : c = 4
    · simp [h4]
    by_cases h6 : c = 6
    · simp [h6]
    · simp [h2, h4, h6]

theorem impl_HeadOk_eq (k : Nat) (hk : 1 ≤ k) (w h d c : Int) (l : Bool) : impl_HeadOk.f k w h d c l = some (headB w h d c) := by
  unfold impl_HeadOk.f headB
  simp only [impl_isSide_eq, impl_DepthOk_eq k hk, Option.bind_some]
  cases sideB w <;> cases sideB h <;> simp

theorem FnExactHeadOk (w h d c : Int) (l : Bool) (_ : (Lit.int .i64 w).wf = true) (_ : (Lit.int .i64 h).wf = true) (_ : (Lit.int .i64 d).wf = true) (_ : (Lit.int .i64 c).wf = true) : ∃ k, laws_FnExactHeadOk.f k w h d c l = some true := by
  refine ⟨1, ?_⟩
  simp [laws_FnExactHeadOk.f, laws_toHead.f, spec_HeadOk_eq, impl_HeadOk_eq]

end Go.Proofs.Ytllibbjcklmhnaa.Pure
