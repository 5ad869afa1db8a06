/- For both bools and every whole number of Go's int: the program's IdOf and the reference's tell the same number. No condition. -/
import Derived.Test.YtjnmcdajolbjfaaPFnExactIdOfx1
import Derived.Test.YtjnmcdajolbjfaaMath
namespace Go.Proofs.Ytjnmcdajolbjfaa.Pure
open Go.RowKit Go.Proofs.Ytjnmcdajolbjfaa.PFnExactIdOf Go.Proofs.YtjnmcdajolbjfaaW.PrintWords Go.Proofs.YtjnmcdajolbjfaaW.PrintLast Go.Proofs.YtjnmcdajolbjfaaW.PrintMore Go.Proofs.Ytjnmcdajolbjfaa.Math
set_option linter.unusedVariables false
set_option linter.unusedSimpArgs false

theorem FnExactIdOf : laws_FnExactIdOf.Pure := by
  intro a0 a1 a2 h2
  refine ⟨1, ?_⟩
  have e : impl_IdOf.f 1 a0 a1 a2 = spec_IdOf.f 1 a0 a1 a2 := rfl
  have s : ∃ r, spec_IdOf.f 1 a0 a1 a2 = some r := by
    simp only [spec_IdOf.f, spec_IdOf.j0]
    repeat' first | exact ⟨_, rfl⟩ | split
  obtain ⟨r, s⟩ := s
  simp [laws_FnExactIdOf.f, e, s]

end Go.Proofs.Ytjnmcdajolbjfaa.Pure
