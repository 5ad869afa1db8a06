/- For all whole numbers of Go's int: the program's CutNum and the reference's tell the same number. No condition. -/
import Derived.Test.YtjnmcdajolbjfaaPFnExactCutNumx1
import Derived.Test.YtjnmcdajolbjfaaMath
namespace Go.Proofs.Ytjnmcdajolbjfaa.Pure
open Go.RowKit Go.Proofs.Ytjnmcdajolbjfaa.PFnExactCutNum Go.Proofs.YtjnmcdajolbjfaaW.PrintWords Go.Proofs.YtjnmcdajolbjfaaW.PrintLast Go.Proofs.YtjnmcdajolbjfaaW.PrintMore Go.Proofs.Ytjnmcdajolbjfaa.Math
set_option linter.unusedVariables false
set_option linter.unusedSimpArgs false

theorem power_ev {n : Int} (h0 : 0 ≤ n) (h1 : n ≤ 7) : Ev (fun k => spec_l01Power.f k n) (256 ^ n.toNat) := by
  have h : n = 0 ∨ n = 1 ∨ n = 2 ∨ n = 3 ∨ n = 4 ∨ n = 5 ∨ n = 6 ∨ n = 7 := by omega
  rcases h with rfl | rfl | rfl | rfl | rfl | rfl | rfl | rfl <;> exact Ev.of (spec_l01Power.mono _) (k := 9) (by decide +kernel)

theorem FnExactCutNum : laws_FnExactCutNum.Pure := by
  intro a0 a1 h0 h1
  have b0 := bounds_i64 h0
  refine Ev.rounds (g := fun k => laws_FnExactCutNum.f k a0 a1) ?_
  simp only [laws_FnExactCutNum.f, spec_CutNum.f, impl_CutNum.f, impl_inVar.f]
  by_cases c1 : a0 < 0
  · simp only [c1, show ¬ a0 ≥ 0 by omega, if_true, if_false, Option.bind_some, Bool.false_eq_true]; exact Ev.now _
  by_cases c2 : a0 > 4611686018427387903
  · simp only [c1, c2, show a0 ≥ 0 by omega, show ¬ a0 ≤ 4611686018427387903 by omega, decide_false, if_true, if_false, Option.bind_some, Bool.false_eq_true]; exact Ev.now _
  simp only [c1, c2, show a0 ≥ 0 by omega, show a0 ≤ 4611686018427387903 by omega, decide_true, if_true, if_false, Option.bind_some]
  by_cases c3 : a1 < 1
  · simp only [c3, if_true, Option.bind_some]; exact Ev.now _
  by_cases c4 : a1 > 4
  · simp only [c3, c4, if_true, if_false, Option.bind_some]; exact Ev.now _
  simp only [c3, c4, if_false]
  refine Ev.bind (Ev.bind (power_ev (by omega) (by omega)) ?_ (r := a0 % 256 ^ a1.toNat)) ?_
  · rw [tmod_nn (by omega)]
    refine Ev_ite (fun c => ?_) (fun c => Ev.now _)
    have : (0 : Int) < 256 ^ a1.toNat := Int.pow_pos (by decide)
    omega
  · have key : (if 0 ≤ wrap64 (8 * a1) then some (Go.bits .and .i64 a0 (wrap64 (shl .i64 1 (wrap64 (8 * a1)) - 1))) else none) = some (a0 % 256 ^ a1.toNat) := by
      have h : a1 = 1 ∨ a1 = 2 ∨ a1 = 3 ∨ a1 = 4 := by omega
      rcases h with rfl | rfl | rfl | rfl
      · rw [show wrap64 (8 * 1) = 8 by decide +kernel, if_pos (by decide), show wrap64 (shl .i64 1 8 - 1) = 2 ^ 8 - 1 by decide +kernel, i64_mask a0 8 (by decide) (by omega) (by omega), show (256 : Int) ^ Int.toNat 1 = 2 ^ 8 by decide +kernel]
      · rw [show wrap64 (8 * 2) = 16 by decide +kernel, if_pos (by decide), show wrap64 (shl .i64 1 16 - 1) = 2 ^ 16 - 1 by decide +kernel, i64_mask a0 16 (by decide) (by omega) (by omega), show (256 : Int) ^ Int.toNat 2 = 2 ^ 16 by decide +kernel]
      · rw [show wrap64 (8 * 3) = 24 by decide +kernel, if_pos (by decide), show wrap64 (shl .i64 1 24 - 1) = 2 ^ 24 - 1 by decide +kernel, i64_mask a0 24 (by decide) (by omega) (by omega), show (256 : Int) ^ Int.toNat 3 = 2 ^ 24 by decide +kernel]
      · rw [show wrap64 (8 * 4) = 32 by decide +kernel, if_pos (by decide), show wrap64 (shl .i64 1 32 - 1) = 2 ^ 32 - 1 by decide +kernel, i64_mask a0 32 (by decide) (by omega) (by omega), show (256 : Int) ^ Int.toNat 4 = 2 ^ 32 by decide +kernel]
    simp only [key, Option.bind_some, if_true]
    exact Ev.now _

end Go.Proofs.Ytjnmcdajolbjfaa.Pure
