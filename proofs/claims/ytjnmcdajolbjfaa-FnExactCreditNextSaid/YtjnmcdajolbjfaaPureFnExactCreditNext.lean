/- For all whole numbers of Go's int: the program's CreditNext and the reference's tell the same number. No condition. -/
import Derived.Test.YtjnmcdajolbjfaaPFnExactCreditNextx1
import Derived.Test.YtjnmcdajolbjfaaMath
namespace Go.Proofs.Ytjnmcdajolbjfaa.Pure
open Go.RowKit Go.Proofs.Ytjnmcdajolbjfaa.PFnExactCreditNext Go.Proofs.YtjnmcdajolbjfaaW.PrintWords Go.Proofs.YtjnmcdajolbjfaaW.PrintLast Go.Proofs.YtjnmcdajolbjfaaW.PrintMore Go.Proofs.Ytjnmcdajolbjfaa.Math
set_option linter.unusedVariables false
set_option linter.unusedSimpArgs false

theorem FnExactCreditNext : laws_FnExactCreditNext.Pure := by
  intro a0 a1 a2 h0 h1 h2
  refine ⟨1, ?_⟩
  have e : impl_CreditNext.f 1 a0 a1 a2 = spec_CreditNext.f 1 a0 a1 a2 := rfl
  have s : ∃ r, spec_CreditNext.f 1 a0 a1 a2 = some r := by
    simp only [spec_CreditNext.f, spec_CreditNext.j0]
    repeat' first | exact ⟨_, rfl⟩ | split
  obtain ⟨r, s⟩ := s
  simp [laws_FnExactCreditNext.f, e, s]

end Go.Proofs.Ytjnmcdajolbjfaa.Pure
