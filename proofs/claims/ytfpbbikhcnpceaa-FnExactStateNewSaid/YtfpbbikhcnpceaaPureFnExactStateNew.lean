/- For every int the program's StateNew and the reference's StateNew return the same state, in new memory. No condition. -/
import Derived.Test.YtfpbbikhcnpceaaQFnExactStateNewx5
namespace Go.Proofs.Ytfpbbikhcnpceaa.Pure
open Go.RowKit Go.Proofs.Ytfpbbikhcnpceaa.QFnExactStateNew Go.Proofs.YtfpbbikhcnpceaaW.PrintWords Go.Proofs.YtfpbbikhcnpceaaW.PrintLast
theorem FnExactStateNew : laws_FnExactStateNew.Pure := by
  intro a _
  refine ⟨30, ?_⟩
  by_cases h : a = 3
  · subst h
    kernel_rfl
  · have h1 : spec_StateNew.f a = some ([], [⟨20, 0, false⟩, ⟨20, 0, false⟩], 0, 0) := by
      unfold spec_StateNew.f
      simp only [Option.bind_some]
      rw [if_neg h]
    have h2 : impl_StateNew.f 30 a = some ([], [⟨20, 0, false⟩, ⟨20, 0, false⟩], 0, 0) := by
      unfold impl_StateNew.f
      rw [if_neg h]
      kernel_rfl
    unfold laws_FnExactStateNew.f
    rw [h1]
    simp only [Option.bind_some]
    rw [h2]
    show _ = some true
    kernel_rfl

end Go.Proofs.Ytfpbbikhcnpceaa.Pure
