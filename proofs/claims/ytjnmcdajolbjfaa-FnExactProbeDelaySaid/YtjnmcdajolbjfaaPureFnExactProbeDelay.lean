/- For every round trip's state and all whole numbers of Go's int: the program's ProbeDelay and the reference's tell the same number. No condition. -/
import Derived.Test.YtjnmcdajolbjfaaPFnExactProbeDelayx3
import Derived.Test.YtjnmcdajolbjfaaMath
namespace Go.Proofs.Ytjnmcdajolbjfaa.Pure
open Go.RowKit Go.Proofs.Ytjnmcdajolbjfaa.PFnExactProbeDelay Go.Proofs.YtjnmcdajolbjfaaW.PrintWords Go.Proofs.YtjnmcdajolbjfaaW.PrintLast Go.Proofs.YtjnmcdajolbjfaaW.PrintMore Go.Proofs.Ytjnmcdajolbjfaa.Math
set_option linter.unusedVariables false
set_option linter.unusedSimpArgs false

/-- Is it a round trip's state? -/
def okB (a b c d : Int) : Bool := decide ((0 ≤ a ∧ a ≤ 1000000000000) ∧ (0 ≤ b ∧ b ≤ 1000000000000) ∧ (0 ≤ c ∧ c ≤ 1000000000000) ∧ (0 ≤ d ∧ d ≤ 1000000000000) ∧ ((a = 0 ∧ b = 0 ∧ c = 0 ∧ d = 0) ∨ (1 ≤ a ∧ 1 ≤ b ∧ 1 ≤ c)))
theorem specTime (a : Int) : spec_l09Time.f a = some (decide (0 ≤ a ∧ a ≤ 1000000000000)) := by
  unfold spec_l09Time.f
  by_cases h : a ≥ 0
  · rw [if_pos h]; exact congrArg some (by rw [decide_eq_decide]; omega)
  · rw [if_neg h]; exact congrArg some (decide_eq_false (by omega)).symm
theorem implTime (a : Int) : impl_inTime.f a = some (decide (0 ≤ a ∧ a ≤ 1000000000000)) := by
  unfold impl_inTime.f
  by_cases h : a ≥ 0
  · rw [if_pos h]; exact congrArg some (by rw [decide_eq_decide]; omega)
  · rw [if_neg h]; exact congrArg some (decide_eq_false (by omega)).symm
theorem zeroB (a b c d : Int) : (a == 0 && (b == 0 && (c == 0 && d == 0))) = decide (a = 0 ∧ b = 0 ∧ c = 0 ∧ d = 0) := by
  rw [Bool.eq_iff_iff]; simp
theorem specOK (a b c d : Int) : spec_l09RttOK.f a b c d = some (okB a b c d) := by
  unfold spec_l09RttOK.f okB
  simp only [specTime, Option.bind_some, decide_eq_true_eq, zeroB]
  by_cases h0 : 0 ≤ a ∧ a ≤ 1000000000000
  · rw [if_pos h0]
    by_cases h1 : 0 ≤ b ∧ b ≤ 1000000000000
    · rw [if_pos h1]
      by_cases h2 : 0 ≤ c ∧ c ≤ 1000000000000
      · rw [if_pos h2]
        by_cases h3 : 0 ≤ d ∧ d ≤ 1000000000000
        · rw [if_pos h3]
          by_cases h4 : a = 0 ∧ b = 0 ∧ c = 0 ∧ d = 0
          · rw [if_pos h4]; exact congrArg some (decide_eq_true (by omega)).symm
          · rw [if_neg h4]
            by_cases h5 : a ≥ 1
            · rw [if_pos h5]
              by_cases h6 : b ≥ 1
              · rw [if_pos h6]; exact congrArg some (by rw [decide_eq_decide]; omega)
              · rw [if_neg h6]; exact congrArg some (decide_eq_false (by omega)).symm
            · rw [if_neg h5]; exact congrArg some (decide_eq_false (by omega)).symm
        · rw [if_neg h3]; exact congrArg some (decide_eq_false (by omega)).symm
      · rw [if_neg h2]; exact congrArg some (decide_eq_false (by omega)).symm
    · rw [if_neg h1]; exact congrArg some (decide_eq_false (by omega)).symm
  · rw [if_neg h0]; exact congrArg some (decide_eq_false (by omega)).symm
theorem implOK (a b c d : Int) : impl_rttOK.f a b c d = some (okB a b c d) := by
  rw [← specOK]
  unfold impl_rttOK.f spec_l09RttOK.f
  simp only [implTime, specTime, Option.bind_some]
  rfl

/-- The doubling: both loops come to the same number, however often they go round. -/
theorem loops (n : Nat) : ∀ (x2 x s : Int), n = (1000000000000 - s).toNat → s = mn x 1000000000000 → 1 ≤ x → x ≤ 6000000000000 → -9223372036854775808 ≤ x2 → x2 ≤ 9223372036854775807 →
    ∃ r, Ev (fun k => spec_ProbeDelay.l0 k x2 s) r ∧ Ev (fun k => impl_ProbeDelay.l0 k x2 x) r := by
  induction n using Nat.strongRecOn with
  | ind n ih =>
    intro x2 x s hn hs h1 h2 h3 h4
    by_cases hx : x < 1000000000000
    · have e : s = x := by rw [hs]; unfold mn; rw [if_neg (by omega)]
      subst e
      by_cases hp : x2 > 0
      · have w1 : wrap64 (2 * s) = 2 * s := w64 (by omega) (by omega)
        have w2 : wrap64 (s * 2) = s * 2 := w64 (by omega) (by omega)
        have w3 : wrap64 (x2 - 1) = x2 - 1 := w64 (by omega) (by omega)
        have lt : mn (2 * s) 1000000000000 > s := by unfold mn; split <;> omega
        obtain ⟨r, ra, rb⟩ := ih (1000000000000 - mn (2 * s) 1000000000000).toNat (by omega) (x2 - 1) (s * 2) (mn (2 * s) 1000000000000) rfl (by rw [Int.mul_comm]) (by omega) (by omega) (by omega) (by omega)
        refine ⟨r, ?_, ?_⟩
        · refine Ev.step (fun k => rfl) ?_
          simp only [spec_ProbeDelay.l0, hp, hx, if_true, w1, w3]
          exact ra
        · refine Ev.step (fun k => rfl) ?_
          simp only [impl_ProbeDelay.l0, hp, hx, if_true, w2, w3]
          exact rb
      · refine ⟨s, ?_, ?_⟩
        · refine Ev.step (fun k => rfl) ?_
          simp only [spec_ProbeDelay.l0, hp, if_false]
          exact Ev.now _
        · refine Ev.step (fun k => rfl) ?_
          simp only [impl_ProbeDelay.l0, hp, if_false]
          exact Ev_now hs.symm
    · have e : s = 1000000000000 := by rw [hs]; unfold mn; split <;> omega
      have q : mn x 1000000000000 = 1000000000000 := by rw [← hs]; exact e
      subst e
      refine ⟨1000000000000, ?_, ?_⟩
      · refine Ev.step (fun k => rfl) ?_
        simp only [spec_ProbeDelay.l0]
        refine Ev_ite (fun _ => ?_) (fun _ => Ev.now _)
        simp only [show ¬ (1000000000000 : Int) < 1000000000000 by decide, if_false]
        exact Ev.now _
      · refine Ev.step (fun k => rfl) ?_
        simp only [impl_ProbeDelay.l0, hx, if_false, q]
        refine Ev_ite (fun _ => Ev.now _) (fun _ => Ev.now _)
theorem mx_bounds {x : Int} (hx : 0 ≤ x ∧ x ≤ 4000000000000) : 1000 ≤ mx x 1000 ∧ mx x 1000 ≤ 4000000000000 := by unfold mx; split <;> omega
theorem j1s (x1 x2 a b c d : Int) (hc : 0 ≤ c ∧ c ≤ 1000000000000) (hd : 0 ≤ d ∧ d ≤ 1000000000000) (h1 : 0 ≤ x1 ∧ x1 ≤ 1000000000000) (h3 : -9223372036854775808 ≤ x2) (h4 : x2 ≤ 9223372036854775807) :
    ∃ r, Ev (fun k => spec_ProbeDelay.j1 k x1 x2 a b c d) r ∧ Ev (fun k => impl_ProbeDelay.j1 k x1 x2 a b c d) r := by
  have w1 : wrap64 (4 * d) = 4 * d := w64 (by omega) (by omega)
  have hm := mx_bounds (x := 4 * d) (by omega)
  have w2 : wrap64 (c + mx (4 * d) 1000) = c + mx (4 * d) 1000 := w64 (by omega) (by omega)
  have w3 : wrap64 (c + mx (4 * d) 1000 + x1) = c + mx (4 * d) 1000 + x1 := w64 (by omega) (by omega)
  obtain ⟨r, ra, rb⟩ := loops _ x2 (c + mx (4 * d) 1000 + x1) _ rfl rfl (by omega) (by omega) h3 h4
  refine ⟨r, ?_, ?_⟩
  · refine Ev.step (fun k => rfl) ?_
    simp only [spec_ProbeDelay.j1, w1, w2, w3]; exact ra
  · refine Ev.step (fun k => rfl) ?_
    simp only [impl_ProbeDelay.j1, w1, w2, w3]; exact rb

/-- Both answer, and the same. -/
theorem both (a b c d x1 x2 : Int) (h3 : -9223372036854775808 ≤ x2) (h4 : x2 ≤ 9223372036854775807) : ∃ r, Ev (fun k => spec_ProbeDelay.f k a b c d x1 x2) r ∧ Ev (fun k => impl_ProbeDelay.f k a b c d x1 x2) r := by
  have yes : Ev (fun k => spec_ProbeDelay.j0 k x1 x2 true a b c d) (-1) ∧ Ev (fun k => impl_ProbeDelay.j0 k x1 x2 true a b c d) (-1) :=
    ⟨Ev.step (f := fun _ => some (-1)) (fun k => by simp only [spec_ProbeDelay.j0, if_true]) (Ev.now _), Ev.step (f := fun _ => some (-1)) (fun k => by simp only [impl_ProbeDelay.j0, if_true]) (Ev.now _)⟩
  simp only [spec_ProbeDelay.f, impl_ProbeDelay.f, specOK, implOK, specTime, implTime, Option.bind_some]
  by_cases h : okB a b c d = true
  · have hok := h
    unfold okB at hok
    replace hok := of_decide_eq_true hok
    simp only [h, if_true]
    by_cases h1 : 0 ≤ x1 ∧ x1 ≤ 1000000000000
    · simp only [decide_eq_true h1, if_true]
      by_cases h2 : x2 < 0
      · simp only [decide_eq_true h2]; exact ⟨_, yes⟩
      · simp only [decide_eq_false h2]
        by_cases hz : a = 0 ∧ b = 0 ∧ c = 0 ∧ d = 0
        · obtain ⟨r, ra, rb⟩ := j1s x1 x2 a b 333000 166500 (by omega) (by omega) h1 h3 h4
          refine ⟨r, ?_, ?_⟩
          · refine Ev.step (fun k => rfl) ?_
            simp only [spec_ProbeDelay.j0, Bool.false_eq_true, if_false, hz.2.2.1, if_true]
            exact ra
          · refine Ev.step (fun k => rfl) ?_
            simp only [impl_ProbeDelay.j0, Bool.false_eq_true, if_false, zeroB, decide_eq_true hz, if_true]
            exact rb
        · have hcz : ¬ c = 0 := by omega
          obtain ⟨r, ra, rb⟩ := j1s x1 x2 a b c d (by omega) (by omega) h1 h3 h4
          refine ⟨r, ?_, ?_⟩
          · refine Ev.step (fun k => rfl) ?_
            simp only [spec_ProbeDelay.j0, Bool.false_eq_true, if_false, hcz]
            exact ra
          · refine Ev.step (fun k => rfl) ?_
            simp only [impl_ProbeDelay.j0, Bool.false_eq_true, if_false, zeroB, decide_eq_false hz]
            exact rb
    · simp only [decide_eq_false h1, Bool.false_eq_true, if_false]; exact ⟨_, yes⟩
  · simp only [h, if_false, Bool.false_eq_true]; exact ⟨_, yes⟩

theorem FnExactProbeDelay (a b c d x1 x2 : Int) (ha : (Lit.int .i64 a).wf = true) (hb : (Lit.int .i64 b).wf = true) (hc : (Lit.int .i64 c).wf = true) (hd : (Lit.int .i64 d).wf = true)
    (h1 : (Lit.int .i64 x1).wf = true) (h2 : (Lit.int .i64 x2).wf = true) : ∃ k, laws_FnExactProbeDelay.f k a b c d x1 x2 = some true := by
  refine Ev.rounds (g := fun k => laws_FnExactProbeDelay.f k a b c d x1 x2) ?_
  have b2 := bounds_i64 h2
  obtain ⟨r, ra, rb⟩ := both a b c d x1 x2 b2.1 b2.2
  simp only [laws_FnExactProbeDelay.f, laws_toRtt.f, Option.bind_some]
  refine Ev.bind ra (Ev.bind rb ?_)
  simp only [if_true]
  exact Ev.now _

end Go.Proofs.Ytjnmcdajolbjfaa.Pure
