/- For every round trip's state (four whole numbers of Go's int): the program's LossDelay and the reference's tell the same number. No condition. -/
import Derived.Test.YtjnmcdajolbjfaaPFnExactLossDelayx2
import Derived.Test.YtjnmcdajolbjfaaMath
namespace Go.Proofs.Ytjnmcdajolbjfaa.Pure
open Go.RowKit Go.Proofs.Ytjnmcdajolbjfaa.PFnExactLossDelay Go.Proofs.YtjnmcdajolbjfaaW.PrintWords Go.Proofs.YtjnmcdajolbjfaaW.PrintLast Go.Proofs.YtjnmcdajolbjfaaW.PrintMore Go.Proofs.Ytjnmcdajolbjfaa.Math
set_option linter.unusedVariables false
set_option linter.unusedSimpArgs false

/-- Is it a round trip's state? -/
def okB (a b c d : Int) : Bool := decide ((0 ≤ a ∧ a ≤ 1000000000000) ∧ (0 ≤ b ∧ b ≤ 1000000000000) ∧ (0 ≤ c ∧ c ≤ 1000000000000) ∧ (0 ≤ d ∧ d ≤ 1000000000000) ∧ ((a = 0 ∧ b = 0 ∧ c = 0 ∧ d = 0) ∨ (1 ≤ a ∧ 1 ≤ b ∧ 1 ≤ c)))
theorem specTime (a : Int) : spec_l09Time.f a = some (decide (0 ≤ a ∧ a ≤ 1000000000000)) := by
  unfold spec_l09Time.f
  by_cases h : a ≥ 0
  · rw [if_pos h]; exact congrArg some (by rw [decide_eq_decide]; omega)
  · rw [if_neg h]; exact congrArg some (decide_eq_false (by omega)).symm
theorem implTime (a : Int) : impl_inTime.f a = some (decide (0 ≤ a ∧ a ≤ 1000000000000)) := by
  unfold impl_inTime.f
  by_cases h : a ≥ 0
  · rw [if_pos h]; exact congrArg some (by rw [decide_eq_decide]; omega)
  · rw [if_neg h]; exact congrArg some (decide_eq_false (by omega)).symm
theorem zeroB (a b c d : Int) : (a == 0 && (b == 0 && (c == 0 && d == 0))) = decide (a = 0 ∧ b = 0 ∧ c = 0 ∧ d = 0) := by
  rw [Bool.eq_iff_iff]; simp
theorem specOK (a b c d : Int) : spec_l09RttOK.f a b c d = some (okB a b c d) := by
  unfold spec_l09RttOK.f okB
  simp only [specTime, Option.bind_some, decide_eq_true_eq, zeroB]
  by_cases h0 : 0 ≤ a ∧ a ≤ 1000000000000
  · rw [if_pos h0]
    by_cases h1 : 0 ≤ b ∧ b ≤ 1000000000000
    · rw [if_pos h1]
      by_cases h2 : 0 ≤ c ∧ c ≤ 1000000000000
      · rw [if_pos h2]
        by_cases h3 : 0 ≤ d ∧ d ≤ 1000000000000
        · rw [if_pos h3]
          by_cases h4 : a = 0 ∧ b = 0 ∧ c = 0 ∧ d = 0
          · rw [if_pos h4]; exact congrArg some (decide_eq_true (by omega)).symm
          · rw [if_neg h4]
            by_cases h5 : a ≥ 1
            · rw [if_pos h5]
              by_cases h6 : b ≥ 1
              · rw [if_pos h6]; exact congrArg some (by rw [decide_eq_decide]; omega)
              · rw [if_neg h6]; exact congrArg some (decide_eq_false (by omega)).symm
            · rw [if_neg h5]; exact congrArg some (decide_eq_false (by omega)).symm
        · rw [if_neg h3]; exact congrArg some (decide_eq_false (by omega)).symm
      · rw [if_neg h2]; exact congrArg some (decide_eq_false (by omega)).symm
    · rw [if_neg h1]; exact congrArg some (decide_eq_false (by omega)).symm
  · rw [if_neg h0]; exact congrArg some (decide_eq_false (by omega)).symm
theorem implOK (a b c d : Int) : impl_rttOK.f a b c d = some (okB a b c d) := by
  rw [← specOK]
  unfold impl_rttOK.f spec_l09RttOK.f
  simp only [implTime, specTime, Option.bind_some]
  rfl

theorem FnExactLossDelay (a b c d : Int) (ha : (Lit.int .i64 a).wf = true) (hb : (Lit.int .i64 b).wf = true) (hc : (Lit.int .i64 c).wf = true) (hd : (Lit.int .i64 d).wf = true) : laws_FnExactLossDelay.f a b c d = some true := by
  simp only [laws_FnExactLossDelay.f, laws_toRtt.f, Option.bind_some, spec_LossDelay.f, impl_LossDelay.f, specOK, implOK, zeroB]
  by_cases h : okB a b c d = true
  · simp only [h, if_true]
    unfold okB at h
    replace h := of_decide_eq_true h
    by_cases hz : a = 0 ∧ b = 0 ∧ c = 0 ∧ d = 0
    · obtain ⟨rfl, rfl, rfl, rfl⟩ := hz
      rfl
    · have hcz : ¬ c = 0 := by omega
      simp only [hz, decide_false, Bool.false_eq_true, if_false]
      simp only [hcz, if_false, Option.bind_some]
      rw [Int.mul_comm 9, if_pos rfl]
  · simp only [h, if_false, Option.bind_some, if_true, Bool.false_eq_true]

end Go.Proofs.Ytjnmcdajolbjfaa.Pure
