/- For all whole numbers of Go's int: the program's PaceDelay and the reference's tell the same number. No condition. -/
import Derived.Test.YtjnmcdajolbjfaaPFnExactPaceDelayx1
import Derived.Test.YtjnmcdajolbjfaaMath
namespace Go.Proofs.Ytjnmcdajolbjfaa.Pure
open Go.RowKit Go.Proofs.Ytjnmcdajolbjfaa.PFnExactPaceDelay Go.Proofs.YtjnmcdajolbjfaaW.PrintWords Go.Proofs.YtjnmcdajolbjfaaW.PrintLast Go.Proofs.YtjnmcdajolbjfaaW.PrintMore Go.Proofs.Ytjnmcdajolbjfaa.Math
set_option linter.unusedVariables false
set_option linter.unusedSimpArgs false

theorem up_div (a b : Int) (h : 1 ≤ b) : (a + b - 1) / b = if a % b = 0 then a / b else a / b + 1 := by
  have hd := Int.mul_ediv_add_emod a b
  have hm := Int.emod_lt_of_pos a (show 0 < b by omega)
  have hn := Int.emod_nonneg a (show b ≠ 0 by omega)
  split
  · rename_i hz
    rw [show a + b - 1 = (b - 1) + b * (a / b) by omega, Int.add_mul_ediv_left _ _ (by omega), Int.ediv_eq_zero_of_lt (by omega) (by omega)]
    omega
  · rename_i hz
    rw [show a + b - 1 = (a % b - 1) + b * (a / b + 1) by rw [Int.mul_add]; omega, Int.add_mul_ediv_left _ _ (by omega), Int.ediv_eq_zero_of_lt (by omega) (by omega)]
    omega

theorem FnExactPaceDelay : laws_FnExactPaceDelay.Pure := by
  intro a0 a1 h0 h1
  refine ⟨1, ?_⟩
  simp only [laws_FnExactPaceDelay.f, spec_PaceDelay.f, impl_PaceDelay.f, spec_PaceDelay.j0]
  by_cases c1 : a0 < 0
  · simp [c1]
  by_cases c2 : a0 > 100000000
  · simp [c1, c2]
  by_cases c3 : a1 < 1
  · simp [c1, c2, c3]
  by_cases c4 : a1 > 1000000000000
  · simp [c1, c2, c3, c4]
  have c5 : ¬ a1 = 0 := by omega
  have q0 : 0 ≤ a0 * 1000000 / a1 := Int.ediv_nonneg (by omega) (by omega)
  have q1 : a0 * 1000000 / a1 ≤ a0 * 1000000 := Int.ediv_le_self _ (by omega)
  have q2 : 0 ≤ (a0 * 1000000 + a1 - 1) / a1 := Int.ediv_nonneg (by omega) (by omega)
  have q3 : (a0 * 1000000 + a1 - 1) / a1 ≤ (a0 * 1000000 + a1 - 1) := Int.ediv_le_self _ (by omega)
  have u := up_div (a0 * 1000000) a1 (by omega)
  simp only [c1, c2, c3, c4, c5, if_false, decide_false, Bool.false_eq_true]
  rw [w64 (x := a0 * 1000000) (by omega) (by omega), w64 (x := a0 * 1000000 + a1) (by omega) (by omega), w64 (x := a0 * 1000000 + a1 - 1) (by omega) (by omega), tdiv_nn (by omega), tdiv_nn (by omega), tmod_nn (by omega),
    w64 (x := a0 * 1000000 / a1) (by omega) (by omega), w64 (x := (a0 * 1000000 + a1 - 1) / a1) (by omega) (by omega), w64 (x := a0 * 1000000 / a1 + 1) (by omega) (by omega), u]
  by_cases e : a0 * 1000000 % a1 = 0 <;> simp [e]

end Go.Proofs.Ytjnmcdajolbjfaa.Pure
