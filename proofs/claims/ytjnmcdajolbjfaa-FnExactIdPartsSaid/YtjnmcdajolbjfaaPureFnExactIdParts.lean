/- For every whole number of Go's int: the program's IdParts and the reference's tell the same four answers. No condition. -/
import Derived.Test.YtjnmcdajolbjfaaPFnExactIdPartsx1
import Derived.Test.YtjnmcdajolbjfaaMath
namespace Go.Proofs.Ytjnmcdajolbjfaa.Pure
open Go.RowKit Go.Proofs.Ytjnmcdajolbjfaa.PFnExactIdParts Go.Proofs.YtjnmcdajolbjfaaW.PrintWords Go.Proofs.YtjnmcdajolbjfaaW.PrintLast Go.Proofs.YtjnmcdajolbjfaaW.PrintMore Go.Proofs.Ytjnmcdajolbjfaa.Math
set_option linter.unusedVariables false
set_option linter.unusedSimpArgs false

theorem FnExactIdParts : laws_FnExactIdParts.Pure := by
  intro a0 h0
  have b0 := bounds_i64 h0
  simp only [laws_FnExactIdParts.f, spec_IdParts.f, impl_IdParts.f]
  by_cases c1 : a0 < 0
  · simp [c1]
  · by_cases c2 : a0 ≥ 4611686018427387904
    · simp [c1, c2]
    · rw [i64_and1 a0 (by omega) (by omega), i64_and2 a0 (by omega) (by omega), tdiv_nn (by omega), tdiv_nn (by omega), tmod_nn (by omega), w64 (x := a0 / 4) (by omega) (by omega), w64 (x := a0 / 2) (by omega) (by omega), tmod_nn (by omega)]
      have e : (a0 / 2 % 2 * 2 == 2) = (a0 / 2 % 2 == 1) := by rw [Bool.eq_iff_iff, beq_iff_eq, beq_iff_eq]; omega
      simp [c1, c2, e]

end Go.Proofs.Ytjnmcdajolbjfaa.Pure
