/- For every whole number of Go's int: the program's VarLen and the reference's tell the same number. No condition. -/
import Derived.Test.YtjnmcdajolbjfaaPFnExactVarLenx1
import Derived.Test.YtjnmcdajolbjfaaMath
namespace Go.Proofs.Ytjnmcdajolbjfaa.Pure
open Go.RowKit Go.Proofs.Ytjnmcdajolbjfaa.PFnExactVarLen Go.Proofs.YtjnmcdajolbjfaaW.PrintWords Go.Proofs.YtjnmcdajolbjfaaW.PrintLast Go.Proofs.YtjnmcdajolbjfaaW.PrintMore Go.Proofs.Ytjnmcdajolbjfaa.Math
set_option linter.unusedVariables false
set_option linter.unusedSimpArgs false

theorem FnExactVarLen : laws_FnExactVarLen.Pure := by
  intro a0 h0
  refine ⟨1, ?_⟩
  simp only [laws_FnExactVarLen.f, spec_VarLen.f, impl_VarLen.f, spec_VarLen.j0, impl_inVar.f]
  by_cases c1 : a0 < 0
  · simp [c1, show ¬ 0 ≤ a0 by omega]
  by_cases c2 : a0 > 4611686018427387903
  · simp [c1, c2, show 0 ≤ a0 by omega, show ¬ a0 ≤ 4611686018427387903 by omega]
  simp only [c1, c2, if_false, decide_false, Bool.false_eq_true, show a0 ≥ 0 by omega, if_true, show a0 ≤ 4611686018427387903 by omega, decide_true, Option.bind_some]
  by_cases d1 : a0 ≤ 63
  · simp [d1, show a0 < 64 by omega]
  by_cases d2 : a0 ≤ 16383
  · simp [d1, d2, show ¬ a0 < 64 by omega, show a0 < 16384 by omega]
  by_cases d3 : a0 ≤ 1073741823
  · simp [d1, d2, d3, show ¬ a0 < 64 by omega, show ¬ a0 < 16384 by omega, show a0 < 1073741824 by omega]
  · simp [d1, d2, d3, show ¬ a0 < 64 by omega, show ¬ a0 < 16384 by omega, show ¬ a0 < 1073741824 by omega]

end Go.Proofs.Ytjnmcdajolbjfaa.Pure
