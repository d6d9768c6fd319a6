/- The program's ChannelsOf returns what the reference's returns, for all arguments. -/
import Derived.Test.YtllibbjcklmhnaaPFnExactChannelsOfx1
set_option linter.unusedVariables false
set_option linter.unusedSimpArgs false
namespace Go.Proofs.Ytllibbjcklmhnaa.Pure
open Go.RowKit Go.Proofs.Ytllibbjcklmhnaa.PFnExactChannelsOf Go.Proofs.YtllibbjcklmhnaaW.PrintWords Go.Proofs.YtllibbjcklmhnaaW.PrintLast

theorem w64 {x : Int} (h : -9223372036854775808 ≤ x) (h' : x ≤ 9223372036854775807) : wrap64 x = x := by unfold wrap64; omega
theorem wf_i64 {a : Int} (h : (Lit.int .i64 a).wf = true) : -9223372036854775808 ≤ a ∧ a ≤ 9223372036854775807 := by
  simpa [Lit.wf, IntKind.min, IntKind.max, IntKind.signed, IntKind.bits] using h
theorem wbt (s : ByteArray) (i : Int) : wrap64 (bt s i) = bt s i := w64 (by have := bt_range s i; omega) (by have := bt_range s i; omega)

def chan (c : Int) : Int := if c = 0 then 1 else if c = 3 then 1 else if c = 2 then 3 else if c = 4 then 2 else if c = 6 then 4 else 0

theorem spec_ChannelsOf_eq (k : Nat) (hk : 1 ≤ k) (c : Int) : spec_ChannelsOf.f k c = some (chan c) := by
  obtain ⟨k, rfl⟩ : ∃ m, k = m + 1 := ⟨k - 1, by omega⟩
  simp only [spec_ChannelsOf.f, spec_ChannelsOf.j0, chan]
  by_cases h0 : c = 0
  · simp [h0]
  · by_cases h3 : c = 3
    · simp [h3]
    · simp [h0, h3]; repeat (first | split | rfl)

theorem impl_ChannelsOf_eq (k : Nat) (hk : 1 ≤ k) (c : Int) : impl_ChannelsOf.f k c = some (chan c) := by
  obtain ⟨k, rfl⟩ : ∃ m, k = m + 1 := ⟨k - 1, by omega⟩
  simp only [impl_ChannelsOf.f, impl_ChannelsOf.j0, chan]
  by_cases h0 : c = 0
  · simp [h0]
  · by_cases h3 : c = 3
    · simp [h3]
    · by_cases h2 : c = 2
      · simp [h2]
      · by_cases h4 : c = 4
        · simp [h4]
        · simp [h0, h3, h2, h4]; repeat (first | split | rfl)

theorem FnExactChannelsOf : laws_FnExactChannelsOf.Pure := by
  intro a _
  refine ⟨1, ?_⟩
  simp [laws_FnExactChannelsOf.f, spec_ChannelsOf_eq, impl_ChannelsOf_eq]

end Go.Proofs.Ytllibbjcklmhnaa.Pure
