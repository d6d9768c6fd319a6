/- The program's PassStep returns what the reference's returns, for all arguments. -/
import Derived.Test.YtllibbjcklmhnaaPFnExactPassStepx1
set_option linter.unusedVariables false
set_option linter.unusedSimpArgs false
namespace Go.Proofs.Ytllibbjcklmhnaa.Pure
open Go.RowKit Go.Proofs.Ytllibbjcklmhnaa.PFnExactPassStep Go.Proofs.YtllibbjcklmhnaaW.PrintWords Go.Proofs.YtllibbjcklmhnaaW.PrintLast

theorem FnExactPassStep : laws_FnExactPassStep.Pure := by
  intro a _
  have h : impl_PassStep.f a = spec_PassStep.f a := rfl
  unfold laws_FnExactPassStep.f
  rw [h]
  obtain ⟨r, hr⟩ : ∃ r, spec_PassStep.f a = some r := by unfold spec_PassStep.f; repeat (first | exact ⟨_, rfl⟩ | split)
  simp [hr]

end Go.Proofs.Ytllibbjcklmhnaa.Pure
