/- For every round trip's state and all whole numbers of Go's int: the program's RttStep and the reference's tell the same state. No condition. -/
import Derived.Test.YtjnmcdajolbjfaaPFnExactRttStepx3
import Derived.Test.YtjnmcdajolbjfaaMath
namespace Go.Proofs.Ytjnmcdajolbjfaa.Pure
open Go.RowKit Go.Proofs.Ytjnmcdajolbjfaa.PFnExactRttStep Go.Proofs.YtjnmcdajolbjfaaW.PrintWords Go.Proofs.YtjnmcdajolbjfaaW.PrintLast Go.Proofs.YtjnmcdajolbjfaaW.PrintMore Go.Proofs.Ytjnmcdajolbjfaa.Math
set_option linter.unusedVariables false
set_option linter.unusedSimpArgs false

/-- Is it a round trip's state? -/
def okB (a b c d : Int) : Bool := decide ((0 ≤ a ∧ a ≤ 1000000000000) ∧ (0 ≤ b ∧ b ≤ 1000000000000) ∧ (0 ≤ c ∧ c ≤ 1000000000000) ∧ (0 ≤ d ∧ d ≤ 1000000000000) ∧ ((a = 0 ∧ b = 0 ∧ c = 0 ∧ d = 0) ∨ (1 ≤ a ∧ 1 ≤ b ∧ 1 ≤ c)))
theorem specTime (a : Int) : spec_l09Time.f a = some (decide (0 ≤ a ∧ a ≤ 1000000000000)) := by
  unfold spec_l09Time.f
  by_cases h : a ≥ 0
  · rw [if_pos h]; exact congrArg some (by rw [decide_eq_decide]; omega)
  · rw [if_neg h]; exact congrArg some (decide_eq_false (by omega)).symm
theorem implTime (a : Int) : impl_inTime.f a = some (decide (0 ≤ a ∧ a ≤ 1000000000000)) := by
  unfold impl_inTime.f
  by_cases h : a ≥ 0
  · rw [if_pos h]; exact congrArg some (by rw [decide_eq_decide]; omega)
  · rw [if_neg h]; exact congrArg some (decide_eq_false (by omega)).symm
theorem zeroB (a b c d : Int) : (a == 0 && (b == 0 && (c == 0 && d == 0))) = decide (a = 0 ∧ b = 0 ∧ c = 0 ∧ d = 0) := by
  rw [Bool.eq_iff_iff]; simp
theorem specOK (a b c d : Int) : spec_l09RttOK.f a b c d = some (okB a b c d) := by
  unfold spec_l09RttOK.f okB
  simp only [specTime, Option.bind_some, decide_eq_true_eq, zeroB]
  by_cases h0 : 0 ≤ a ∧ a ≤ 1000000000000
  · rw [if_pos h0]
    by_cases h1 : 0 ≤ b ∧ b ≤ 1000000000000
    · rw [if_pos h1]
      by_cases h2 : 0 ≤ c ∧ c ≤ 1000000000000
      · rw [if_pos h2]
        by_cases h3 : 0 ≤ d ∧ d ≤ 1000000000000
        · rw [if_pos h3]
          by_cases h4 : a = 0 ∧ b = 0 ∧ c = 0 ∧ d = 0
          · rw [if_pos h4]; exact congrArg some (decide_eq_true (by omega)).symm
          · rw [if_neg h4]
            by_cases h5 : a ≥ 1
            · rw [if_pos h5]
              by_cases h6 : b ≥ 1
              · rw [if_pos h6]; exact congrArg some (by rw [decide_eq_decide]; omega)
              · rw [if_neg h6]; exact congrArg some (decide_eq_false (by omega)).symm
            · rw [if_neg h5]; exact congrArg some (decide_eq_false (by omega)).symm
        · rw [if_neg h3]; exact congrArg some (decide_eq_false (by omega)).symm
      · rw [if_neg h2]; exact congrArg some (decide_eq_false (by omega)).symm
    · rw [if_neg h1]; exact congrArg some (decide_eq_false (by omega)).symm
  · rw [if_neg h0]; exact congrArg some (decide_eq_false (by omega)).symm
theorem implOK (a b c d : Int) : impl_rttOK.f a b c d = some (okB a b c d) := by
  rw [← specOK]
  unfold impl_rttOK.f spec_l09RttOK.f
  simp only [implTime, specTime, Option.bind_some]
  rfl

theorem far_eq (x y : Int) (h0 : -9223372036854775808 ≤ x - y) (h1 : x - y ≤ 9223372036854775807) (h2 : -9223372036854775808 ≤ y - x) (h3 : y - x ≤ 9223372036854775807) : spec_l09Far.f x y = some (mx (wrap64 (x - y)) (wrap64 (y - x))) := by
  unfold spec_l09Far.f mx
  rw [w64 h0 h1, w64 h2 h3]
  by_cases h : x > y
  · rw [if_pos h, if_neg (by omega)]
  · rw [if_neg h]
    by_cases e : x - y < y - x
    · rw [if_pos e]
    · rw [if_neg e]; exact congrArg some (by omega)

theorem mn_bounds {x y : Int} (hx : 0 ≤ x ∧ x ≤ 1000000000000) (hy : 0 ≤ y ∧ y ≤ 1000000000000) : 0 ≤ mn x y ∧ mn x y ≤ 1000000000000 := by unfold mn; split <;> omega

/-- Both answer, and the same. -/
theorem both (a b c d x1 x2 x3 : Int) : ∃ r, spec_RttStep.f 1 a b c d x1 x2 x3 = some r ∧ impl_RttStep.f 1 a b c d x1 x2 x3 = some r := by
  simp only [spec_RttStep.f, impl_RttStep.f, specOK, implOK, specTime, implTime, Option.bind_some, spec_RttStep.j0, impl_RttStep.j0, zeroB]
  by_cases h : okB a b c d = true
  · simp only [h, if_true]
    by_cases h1 : x1 < 1
    · simp only [h1, if_true]; first | exact ⟨_, rfl, rfl⟩ | exact ⟨_, rfl⟩
    by_cases h2 : x1 > 1000000000000
    · simp only [h1, h2, if_true, if_false]; first | exact ⟨_, rfl, rfl⟩ | exact ⟨_, rfl⟩
    by_cases h3 : 0 ≤ x2 ∧ x2 ≤ 1000000000000
    · by_cases h4 : 0 ≤ x3 ∧ x3 ≤ 1000000000000
      · simp only [h1, h2, h3, h4, and_self, decide_true, Bool.not_true, if_true, if_false, Bool.false_eq_true]
        have hok := h
        unfold okB at hok
        replace hok := of_decide_eq_true hok
        have hm := mn_bounds h3 h4
        by_cases hz : a = 0 ∧ b = 0 ∧ c = 0 ∧ d = 0
        · obtain ⟨rfl, rfl, rfl, rfl⟩ := hz
          first | exact ⟨_, rfl, rfl⟩ | exact ⟨_, rfl⟩
        · have hcz : ¬ c = 0 := by omega
          simp only [hz, decide_false, Bool.false_eq_true, if_false]
          simp only [hcz, if_false]
          rw [far_eq c x1 (by omega) (by omega) (by omega) (by omega), w64 (x := x1 - mn x2 x3) (by omega) (by omega), far_eq c (x1 - mn x2 x3) (by omega) (by omega) (by omega) (by omega)]
          simp only [Option.bind_some]
          by_cases e : x1 - mn x2 x3 < mn b x1
          · simp only [e, if_true]; first | exact ⟨_, rfl, rfl⟩ | exact ⟨_, rfl⟩
          · simp only [e, if_false]; first | exact ⟨_, rfl, rfl⟩ | exact ⟨_, rfl⟩
      · simp only [h1, h2, h3, h4, and_self, decide_true, decide_false, Bool.not_false, if_true, if_false]; first | exact ⟨_, rfl, rfl⟩ | exact ⟨_, rfl⟩
    · simp only [h1, h2, h3, decide_false, if_true, if_false, Bool.false_eq_true]; first | exact ⟨_, rfl, rfl⟩ | exact ⟨_, rfl⟩
  · simp only [h, if_false, if_true, Bool.false_eq_true]; first | exact ⟨_, rfl, rfl⟩ | exact ⟨_, rfl⟩

theorem FnExactRttStep (a b c d x1 x2 x3 : Int) (ha : (Lit.int .i64 a).wf = true) (hb : (Lit.int .i64 b).wf = true) (hc : (Lit.int .i64 c).wf = true) (hd : (Lit.int .i64 d).wf = true)
    (h1 : (Lit.int .i64 x1).wf = true) (h2 : (Lit.int .i64 x2).wf = true) (h3 : (Lit.int .i64 x3).wf = true) : ∃ k, laws_FnExactRttStep.f k a b c d x1 x2 x3 = some true := by
  obtain ⟨r, e1, e2⟩ := both a b c d x1 x2 x3
  refine ⟨1, ?_⟩
  simp only [laws_FnExactRttStep.f, laws_toRtt.f, Option.bind_some, e1, e2, laws_eqRtt.f, if_true]

end Go.Proofs.Ytjnmcdajolbjfaa.Pure
