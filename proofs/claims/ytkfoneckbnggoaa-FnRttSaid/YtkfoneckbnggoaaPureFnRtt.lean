/- For all lists of bytes the law FnRtt answers true: its drawn round trips keep the least, the smooth one between its bounds, and the probe's delay doubles with the count. No condition. -/
import Derived.Test.YtkfoneckbnggoaaPFnRttx5
import Derived.Test.YtkfoneckbnggoaaMath
namespace Go.Proofs.Ytkfoneckbnggoaa.Pure
open Go.RowKit Go.Proofs.Ytkfoneckbnggoaa.PFnRtt Go.Proofs.YtkfoneckbnggoaaW.PrintWords Go.Proofs.YtkfoneckbnggoaaW.PrintLast Go.Proofs.YtkfoneckbnggoaaW.PrintMore Go.Proofs.Ytkfoneckbnggoaa.Math
set_option linter.unusedVariables false
set_option linter.unusedSimpArgs false

/-- Is it a round trip's state? -/
def okB (a b c d : Int) : Bool := decide ((0 ≤ a ∧ a ≤ 1000000000000) ∧ (0 ≤ b ∧ b ≤ 1000000000000) ∧ (0 ≤ c ∧ c ≤ 1000000000000) ∧ (0 ≤ d ∧ d ≤ 1000000000000) ∧ ((a = 0 ∧ b = 0 ∧ c = 0 ∧ d = 0) ∨ (1 ≤ a ∧ 1 ≤ b ∧ 1 ≤ c)))
theorem specTime (a : Int) : spec_l09Time.f a = some (decide (0 ≤ a ∧ a ≤ 1000000000000)) := by
  unfold spec_l09Time.f
  by_cases h : a ≥ 0
  · rw [if_pos h]; exact congrArg some (by rw [decide_eq_decide]; omega)
  · rw [if_neg h]; exact congrArg some (decide_eq_false (by omega)).symm
theorem implTime (a : Int) : impl_inTime.f a = some (decide (0 ≤ a ∧ a ≤ 1000000000000)) := by
  unfold impl_inTime.f
  by_cases h : a ≥ 0
  · rw [if_pos h]; exact congrArg some (by rw [decide_eq_decide]; omega)
  · rw [if_neg h]; exact congrArg some (decide_eq_false (by omega)).symm
theorem zeroB (a b c d : Int) : (a == 0 && (b == 0 && (c == 0 && d == 0))) = decide (a = 0 ∧ b = 0 ∧ c = 0 ∧ d = 0) := by
  rw [Bool.eq_iff_iff]; simp
theorem specOK (a b c d : Int) : spec_l09RttOK.f a b c d = some (okB a b c d) := by
  unfold spec_l09RttOK.f okB
  simp only [specTime, Option.bind_some, decide_eq_true_eq, zeroB]
  by_cases h0 : 0 ≤ a ∧ a ≤ 1000000000000
  · rw [if_pos h0]
    by_cases h1 : 0 ≤ b ∧ b ≤ 1000000000000
    · rw [if_pos h1]
      by_cases h2 : 0 ≤ c ∧ c ≤ 1000000000000
      · rw [if_pos h2]
        by_cases h3 : 0 ≤ d ∧ d ≤ 1000000000000
        · rw [if_pos h3]
          by_cases h4 : a = 0 ∧ b = 0 ∧ c = 0 ∧ d = 0
          · rw [if_pos h4]; exact congrArg some (decide_eq_true (by omega)).symm
          · rw [if_neg h4]
            by_cases h5 : a ≥ 1
            · rw [if_pos h5]
              by_cases h6 : b ≥ 1
              · rw [if_pos h6]; exact congrArg some (by rw [decide_eq_decide]; omega)
              · rw [if_neg h6]; exact congrArg some (decide_eq_false (by omega)).symm
            · rw [if_neg h5]; exact congrArg some (decide_eq_false (by omega)).symm
        · rw [if_neg h3]; exact congrArg some (decide_eq_false (by omega)).symm
      · rw [if_neg h2]; exact congrArg some (decide_eq_false (by omega)).symm
    · rw [if_neg h1]; exact congrArg some (decide_eq_false (by omega)).symm
  · rw [if_neg h0]; exact congrArg some (decide_eq_false (by omega)).symm
theorem implOK (a b c d : Int) : impl_rttOK.f a b c d = some (okB a b c d) := by
  rw [← specOK]
  unfold impl_rttOK.f spec_l09RttOK.f
  simp only [implTime, specTime, Option.bind_some]
  rfl
theorem far_eq (x y : Int) (h0 : -9223372036854775808 ≤ x - y) (h1 : x - y ≤ 9223372036854775807) (h2 : -9223372036854775808 ≤ y - x) (h3 : y - x ≤ 9223372036854775807) : spec_l09Far.f x y = some (mx (wrap64 (x - y)) (wrap64 (y - x))) := by
  unfold spec_l09Far.f mx
  rw [w64 h0 h1, w64 h2 h3]
  by_cases h : x > y
  · rw [if_pos h, if_neg (by omega)]
  · rw [if_neg h]
    by_cases e : x - y < y - x
    · rw [if_pos e]
    · rw [if_neg e]; exact congrArg some (by omega)

theorem mn_bounds {x y : Int} (hx : 0 ≤ x ∧ x ≤ 1000000000000) (hy : 0 ≤ y ∧ y ≤ 1000000000000) : 0 ≤ mn x y ∧ mn x y ≤ 1000000000000 := by unfold mn; split <;> omega

/-- A step behind the first one. -/
theorem step_val (a b c d x1 x2 : Int) (h : okB a b c d = true) (hz : ¬ (a = 0 ∧ b = 0 ∧ c = 0 ∧ d = 0)) (h1 : 1 ≤ x1 ∧ x1 ≤ 1000000000000) (h2 : 0 ≤ x2 ∧ x2 ≤ 1000000000000) :
    ∃ adj, (adj = x1 ∨ adj = x1 - mn x2 3000) ∧ adj ≤ x1 ∧ mn b x1 ≤ adj ∧ Ev (fun k => spec_RttStep.f k a b c d x1 x2 3000) (x1, mn b x1, (7 * c + adj) / 8, (3 * d + mx (c - adj) (adj - c)) / 4) ∧ Ev (fun k => impl_RttStep.f k a b c d x1 x2 3000) (x1, mn b x1, (7 * c + adj) / 8, (3 * d + mx (c - adj) (adj - c)) / 4) := by
  have hok := h
  unfold okB at hok
  replace hok := of_decide_eq_true hok
  have hm := mn_bounds h2 (show 0 ≤ (3000 : Int) ∧ (3000 : Int) ≤ 1000000000000 by omega)
  have hcz : ¬ c = 0 := by omega
  have hx : ∀ p q : Int, 0 ≤ mx (p - q) (q - p) ∧ (mx (p - q) (q - p) = p - q ∨ mx (p - q) (q - p) = q - p) := fun p q => by unfold mx; split <;> omega
  have go : ∀ adj : Int, -1000000000000 ≤ adj ∧ adj ≤ x1 → 0 ≤ 7 * c + adj → wrap64 (Int.tdiv (wrap64 (wrap64 (7 * c) + adj)) 8) = (7 * c + adj) / 8 ∧ wrap64 (Int.tdiv (wrap64 (wrap64 (3 * d) + mx (wrap64 (c - adj)) (wrap64 (adj - c)))) 4) = (3 * d + mx (c - adj) (adj - c)) / 4 := by
    intro adj h3 h4
    have := hx c adj
    rw [w64 (x := 7 * c) (by omega) (by omega), w64 (x := 7 * c + adj) (by omega) (by omega), tdiv_nn h4, w64 (x := (7 * c + adj) / 8) (by omega) (by omega), w64 (x := 3 * d) (by omega) (by omega), w64 (x := c - adj) (by omega) (by omega), w64 (x := adj - c) (by omega) (by omega), w64 (x := 3 * d + mx (c - adj) (adj - c)) (by omega) (by omega), tdiv_nn (by omega), w64 (x := (3 * d + mx (c - adj) (adj - c)) / 4) (by omega) (by omega)]
    exact ⟨rfl, rfl⟩
  have wa : wrap64 (x1 - mn x2 3000) = x1 - mn x2 3000 := w64 (by omega) (by omega)
  have hb : mn b x1 ≤ x1 := by unfold mn; split <;> omega
  have hb1 : 1 ≤ mn b x1 := by unfold mn; split <;> omega
  by_cases e : x1 - mn x2 3000 < mn b x1
  · refine ⟨x1, .inl rfl, by omega, hb, ?_, ?_⟩
    · have g := go x1 (by omega) (by omega)
      simp only [spec_RttStep.f, specOK, specTime, Option.bind_some, h, if_true, show ¬ x1 < 1 by omega, show ¬ x1 > 1000000000000 by omega, if_false, decide_eq_true h2, show decide (0 ≤ (3000 : Int) ∧ (3000 : Int) ≤ 1000000000000) = true by decide, Bool.not_true]
      refine Ev.step (fun k => rfl) ?_
      simp only [spec_RttStep.j0, Bool.false_eq_true, if_false, hcz, wa, e, if_true, far_eq c x1 (by omega) (by omega) (by omega) (by omega), Option.bind_some, g.1, g.2]
      exact Ev.now _
    · have g := go x1 (by omega) (by omega)
      simp only [impl_RttStep.f, implOK, implTime, Option.bind_some, h, if_true, show ¬ x1 < 1 by omega, show ¬ x1 > 1000000000000 by omega, if_false, decide_eq_true h2, show decide (0 ≤ (3000 : Int) ∧ (3000 : Int) ≤ 1000000000000) = true by decide, Bool.not_true]
      refine Ev.step (fun k => rfl) ?_
      simp only [impl_RttStep.j0, Bool.false_eq_true, if_false, zeroB, decide_eq_false hz, wa, e, if_true, g.1, g.2]
      exact Ev.now _
  · refine ⟨x1 - mn x2 3000, .inr rfl, by omega, by omega, ?_, ?_⟩
    · have g := go (x1 - mn x2 3000) (by omega) (by omega)
      simp only [spec_RttStep.f, specOK, specTime, Option.bind_some, h, if_true, show ¬ x1 < 1 by omega, show ¬ x1 > 1000000000000 by omega, if_false, decide_eq_true h2, show decide (0 ≤ (3000 : Int) ∧ (3000 : Int) ≤ 1000000000000) = true by decide, Bool.not_true]
      refine Ev.step (fun k => rfl) ?_
      simp only [spec_RttStep.j0, Bool.false_eq_true, if_false, hcz, wa, e, far_eq c (x1 - mn x2 3000) (by omega) (by omega) (by omega) (by omega), Option.bind_some, g.1, g.2]
      exact Ev.now _
    · have g := go (x1 - mn x2 3000) (by omega) (by omega)
      simp only [impl_RttStep.f, implOK, implTime, Option.bind_some, h, if_true, show ¬ x1 < 1 by omega, show ¬ x1 > 1000000000000 by omega, if_false, decide_eq_true h2, show decide (0 ≤ (3000 : Int) ∧ (3000 : Int) ≤ 1000000000000) = true by decide, Bool.not_true]
      refine Ev.step (fun k => rfl) ?_
      simp only [impl_RttStep.j0, Bool.false_eq_true, if_false, zeroB, decide_eq_false hz, wa, e, g.1, g.2]
      exact Ev.now _
/-- The first step. -/
theorem step_first (x1 x2 : Int) (h1 : 1 ≤ x1 ∧ x1 ≤ 1000000000000) (h2 : 0 ≤ x2 ∧ x2 ≤ 1000000000000) : Ev (fun k => spec_RttStep.f k 0 0 0 0 x1 x2 3000) (x1, x1, x1, x1 / 2) ∧ Ev (fun k => impl_RttStep.f k 0 0 0 0 x1 x2 3000) (x1, x1, x1, x1 / 2) := by
  have h : okB 0 0 0 0 = true := by decide
  have g : wrap64 (Int.tdiv x1 2) = x1 / 2 := by rw [tdiv_nn (by omega), w64 (by omega) (by omega)]
  refine ⟨?_, ?_⟩
  · simp only [spec_RttStep.f, specOK, specTime, Option.bind_some, h, if_true, show ¬ x1 < 1 by omega, show ¬ x1 > 1000000000000 by omega, if_false, decide_eq_true h2, show decide (0 ≤ (3000 : Int) ∧ (3000 : Int) ≤ 1000000000000) = true by decide, Bool.not_true]
    refine Ev.step (fun k => rfl) ?_
    simp only [spec_RttStep.j0, Bool.false_eq_true, if_false, if_true, g]
    exact Ev.now _
  · simp only [impl_RttStep.f, implOK, implTime, Option.bind_some, h, if_true, show ¬ x1 < 1 by omega, show ¬ x1 > 1000000000000 by omega, if_false, decide_eq_true h2, show decide (0 ≤ (3000 : Int) ∧ (3000 : Int) ≤ 1000000000000) = true by decide, Bool.not_true]
    refine Ev.step (fun k => rfl) ?_
    simp only [impl_RttStep.j0, Bool.false_eq_true, if_false, if_true, zeroB, show decide ((0 : Int) = 0 ∧ (0 : Int) = 0 ∧ (0 : Int) = 0 ∧ (0 : Int) = 0) = true by decide, g]
    exact Ev.now _
theorem at_val (l : List Int) (i n : Int) (hl : l.length ≤ 1048576) (hb : ∀ x ∈ l, 0 ≤ x ∧ x < 256) (hi : 0 ≤ i ∧ i ≤ 100) (hn : 1 < n ∧ n ≤ 100000) : ∃ v, laws_at.f l i n = some v ∧ 0 ≤ v ∧ v < n := by
  unfold laws_at.f
  rw [if_neg (by omega)]
  by_cases h : (l.length : Int) = 0
  · rw [if_pos h, if_neg (by omega), w64 (by omega) (by omega), tmod_nn (by omega)]
    exact ⟨_, rfl, Int.emod_nonneg _ (by omega), Int.emod_lt_of_pos _ (by omega)⟩
  · have a0 := Int.emod_nonneg i h
    have a1 := Int.emod_lt_of_pos i (show 0 < (l.length : Int) by omega)
    have b0 := Int.emod_nonneg (i + 1) h
    have b1 := Int.emod_lt_of_pos (i + 1) (show 0 < (l.length : Int) by omega)
    have c0 : 0 ≤ i / (l.length : Int) := Int.ediv_nonneg (by omega) (by omega)
    have c1 : i / (l.length : Int) ≤ i := Int.ediv_le_self _ (by omega)
    have byte : ∀ j : Int, 0 ≤ j → j < (l.length : Int) → 0 ≤ rd l j ∧ rd l j < 256 := fun j h0 h1 => by
      obtain ⟨m, rfl⟩ := Int.eq_ofNat_of_zero_le h0
      exact hb _ (List.mem_of_getElem? (rd_get l (by omega)))
    have r1 := byte _ a0 a1
    have r2 := byte _ b0 b1
    rw [if_neg h, w64 (x := i + 1) (by omega) (by omega), tmod_nn (b := (l.length : Int)) hi.1, tmod_nn (a := i + 1) (by omega), tdiv_nn hi.1, if_pos a0, if_pos a1, if_pos b0, if_pos b1, if_neg (by omega),
      w64 (x := rd l (i % (l.length : Int))) (by omega) (by omega), w64 (x := rd l (i % (l.length : Int)) * 31) (by omega) (by omega), w64 (x := rd l ((i + 1) % (l.length : Int))) (by omega) (by omega), w64 (x := rd l (i % (l.length : Int)) * 31 + rd l ((i + 1) % (l.length : Int))) (by omega) (by omega), w64 (x := i / (l.length : Int)) (by omega) (by omega), w64 (x := rd l (i % (l.length : Int)) * 31 + rd l ((i + 1) % (l.length : Int)) + i / (l.length : Int)) (by omega) (by omega), tmod_nn (by omega)]
    exact ⟨_, rfl, Int.emod_nonneg _ (by omega), Int.emod_lt_of_pos _ (by omega)⟩

/-! The probe's delay -/
theorem probe_zero (x : Int) : Ev (fun k => impl_ProbeDelay.l0 k 0 x) (mn x 1000000000000) := by
  refine Ev.step (fun k => rfl) ?_
  simp only [impl_ProbeDelay.l0, show ¬ ((0 : Int) > 0) by decide, if_false]
  exact Ev.now _
theorem probe_step (n x r : Int) (hn : 0 < n ∧ n ≤ 100) (hx : 0 ≤ x ∧ x < 1000000000000) (h : Ev (fun k => impl_ProbeDelay.l0 k (n - 1) (x * 2)) r) : Ev (fun k => impl_ProbeDelay.l0 k n x) r := by
  refine Ev.step (fun k => rfl) ?_
  simp only [impl_ProbeDelay.l0, show n > 0 by omega, hx.2, if_true, w64 (x := n - 1) (by omega) (by omega), w64 (x := x * 2) (by omega) (by omega)]
  exact h
theorem probe_far (n x : Int) (hn : 0 ≤ n) (hx : 1000000000000 ≤ x) : Ev (fun k => impl_ProbeDelay.l0 k n x) 1000000000000 := by
  have e : mn x 1000000000000 = 1000000000000 := by unfold mn; split <;> omega
  refine Ev.step (fun k => rfl) ?_
  simp only [impl_ProbeDelay.l0, show ¬ x < 1000000000000 by omega, if_false, e]
  exact Ev_ite (fun _ => Ev.now _) (fun _ => Ev.now _)
theorem probe_many (m : Nat) : ∀ (n x : Int), 0 ≤ n → n ≤ 100 → (m : Int) ≤ n → 1 ≤ x → 1000000000000 ≤ x * 2 ^ m → Ev (fun k => impl_ProbeDelay.l0 k n x) 1000000000000 := by
  induction m with
  | zero => intro n x h0 h1 h2 h3 h4; exact probe_far n x h0 (by simpa using h4)
  | succ m ih =>
    intro n x h0 h1 h2 h3 h4
    by_cases hx : x < 1000000000000
    · refine probe_step n x _ (by omega) (by omega) (ih (n - 1) (x * 2) (by omega) (by omega) (by omega) (by omega) ?_)
      rw [Int.mul_assoc, ← Int.pow_succ']
      exact h4
    · exact probe_far n x h0 (by omega)
theorem probe_at (a b c d n r : Int) (h : okB a b c d = true) (hz : ¬ (a = 0 ∧ b = 0 ∧ c = 0 ∧ d = 0)) (hc : c ≤ 100000) (hd : d ≤ 100000) (hn : 0 ≤ n) (hr : Ev (fun k => impl_ProbeDelay.l0 k n (c + mx (4 * d) 1000 + 100)) r) : Ev (fun k => impl_ProbeDelay.f k a b c d 100 n) r := by
  have hok := h
  unfold okB at hok
  replace hok := of_decide_eq_true hok
  have hm : 1000 ≤ mx (4 * d) 1000 ∧ mx (4 * d) 1000 ≤ 400000 := by unfold mx; split <;> omega
  simp only [impl_ProbeDelay.f, implOK, implTime, Option.bind_some, h, if_true, show decide (0 ≤ (100 : Int) ∧ (100 : Int) ≤ 1000000000000) = true by decide, show decide (n < 0) = false from decide_eq_false (by omega)]
  refine Ev.step (fun k => rfl) ?_
  simp only [impl_ProbeDelay.j0, Bool.false_eq_true, if_false, zeroB, decide_eq_false hz]
  refine Ev.step (fun k => rfl) ?_
  simp only [impl_ProbeDelay.j1, w64 (x := 4 * d) (by omega) (by omega), w64 (x := c + mx (4 * d) 1000) (by omega) (by omega), w64 (x := c + mx (4 * d) 1000 + 100) (by omega) (by omega)]
  exact hr

/-- What holds of the state behind a step: least, greatest, the round trip. -/
def Inv (lo hi a b c d : Int) : Prop := 1 ≤ lo ∧ lo ≤ hi ∧ hi ≤ 90000 ∧ b = lo ∧ 1 ≤ a ∧ a ≤ hi ∧ 1 ≤ c ∧ c ≤ hi ∧ lo - 8 ≤ c ∧ 0 ≤ d ∧ d ≤ 90000
theorem Inv.ok {lo hi a b c d : Int} (h : Inv lo hi a b c d) : okB a b c d = true ∧ ¬ (a = 0 ∧ b = 0 ∧ c = 0 ∧ d = 0) := by
  unfold Inv at h
  exact ⟨decide_eq_true (by omega), by omega⟩
/-- Behind the loop. -/
theorem ends (l : List Int) (lo hi i a b c d : Int) (h : Inv lo hi a b c d) : Ev (fun k => laws_FnRtt.j1 k l lo hi i false a b c d) true := by
  obtain ⟨ok, hz⟩ := h.ok
  unfold Inv at h
  have hm : 1000 ≤ mx (4 * d) 1000 ∧ mx (4 * d) 1000 ≤ 360000 := by unfold mx; split <;> omega
  have e0 := probe_at a b c d 0 _ ok hz (by omega) (by omega) (by omega) (probe_zero _)
  have e1 := probe_at a b c d 1 _ ok hz (by omega) (by omega) (by omega) (probe_step 1 _ _ (by omega) (by omega) (probe_zero _))
  have e2 := probe_at a b c d 50 _ ok hz (by omega) (by omega) (by omega) (probe_many 40 50 _ (by omega) (by omega) (by omega) (by omega) (by omega))
  have m0 : mn (c + mx (4 * d) 1000 + 100) 1000000000000 = c + mx (4 * d) 1000 + 100 := by unfold mn; rw [if_neg (by omega)]
  have m1 : mn ((c + mx (4 * d) 1000 + 100) * 2) 1000000000000 = (c + mx (4 * d) 1000 + 100) * 2 := by unfold mn; rw [if_neg (by omega)]
  have m2 : mn (2 * (c + mx (4 * d) 1000 + 100)) 1000000000000 = (c + mx (4 * d) 1000 + 100) * 2 := by unfold mn; rw [if_neg (by omega), Int.mul_comm]
  rw [m0] at e0
  rw [m1] at e1
  have hb : a ≤ mx a c ∧ mx a c ≤ 90000 := by unfold mx; split <;> omega
  have hl : impl_LossDelay.f a b c d = some (mx (9 * mx a c / 8) 1000) := by
    simp only [impl_LossDelay.f, implOK, Option.bind_some, ok, if_true, zeroB, decide_eq_false hz, Bool.false_eq_true, if_false, w64 (x := 9 * mx a c) (by omega) (by omega), tdiv_nn (a := 9 * mx a c) (by omega), w64 (x := 9 * mx a c / 8) (by omega) (by omega)]
  have hge : mx (9 * mx a c / 8) 1000 ≥ 1000 ∧ mx (9 * mx a c / 8) 1000 ≥ 9 * mx a c / 8 := by unfold mx; split <;> omega
  refine Ev.step (fun k => rfl) ?_
  simp only [laws_FnRtt.j1, Bool.false_eq_true, if_false]
  refine Ev.bind e0 (Ev.bind e1 (Ev.bind e2 ?_))
  simp only [show c + mx (4 * d) 1000 + 100 > c by omega, if_true, w64 (x := 2 * (c + mx (4 * d) 1000 + 100)) (by omega) (by omega), m2, hl, Option.bind_some, hge.1, w64 (x := a * 9) (by omega) (by omega), tdiv_nn (a := a * 9) (by omega), w64 (x := a * 9 / 8) (by omega) (by omega)]
  exact Ev_now (by rw [decide_eq_true_iff]; omega)
/-- One round: what the tests ask, and the rest. -/
theorem round (l : List Int) (lo hi i a b c d s sm vr : Int) (t : Bool) (lo' : Int) (hlo : lo' = if t = true then s else lo) (h : Inv lo' (mx hi s) s lo' sm vr) (H : Ev (fun k => laws_FnRtt.l0 k l lo' (mx hi s) (wrap64 (i + 1)) s lo' sm vr) true) :
    Ev (fun k => laws_FnRtt.j2 k l lo hi i s t s lo' sm vr) true := by
  unfold Inv at h
  refine Ev.step (fun k => rfl) ?_
  cases t with
  | true =>
    rw [if_pos rfl] at hlo
    subst hlo
    simp only [laws_FnRtt.j2, if_true, show ¬ sm > mx hi lo' by omega, w64 (x := lo' - 8) (by omega) (by omega), show ¬ sm < lo' - 8 by omega, show ¬ sm < 1 by omega, if_false]
    exact H
  | false =>
    rw [if_neg (by decide)] at hlo
    subst hlo
    simp only [laws_FnRtt.j2, if_true, Bool.false_eq_true, if_false, show ¬ sm > mx hi s by omega, w64 (x := lo' - 8) (by omega) (by omega), show ¬ sm < lo' - 8 by omega, show ¬ sm < 1 by omega]
    exact H
theorem rtt_loop (l : List Int) (hl : l.length ≤ 1048576) (hb : ∀ x ∈ l, 0 ≤ x ∧ x < 256) (n : Nat) : ∀ (i lo hi a b c d : Int), (40 - i).toNat = n → 0 ≤ i → i ≤ 40 → (i = 0 ∧ lo = 0 ∧ hi = 0 ∧ a = 0 ∧ b = 0 ∧ c = 0 ∧ d = 0) ∨ (1 ≤ i ∧ Inv lo hi a b c d) → Ev (fun k => laws_FnRtt.l0 k l lo hi i a b c d) true := by
  induction n with
  | zero =>
    intro i lo hi a b c d hn h0 h1 hI
    refine Ev.step (fun k => rfl) ?_
    simp only [laws_FnRtt.l0, show ¬ i < 40 by omega, if_false]
    exact ends l lo hi i a b c d (hI.resolve_left (by omega)).2
  | succ n ih =>
    intro i lo hi a b c d hn h0 h1 hI
    refine Ev.step (fun k => rfl) ?_
    simp only [laws_FnRtt.l0, show i < 40 by omega, if_true, w64 (x := (l.length : Int) + 2) (by omega) (by omega)]
    by_cases hd : i < (l.length : Int) + 2
    · rw [decide_eq_true hd]
      obtain ⟨v, ev, v0, v1⟩ := at_val l i 90000 hl hb (by omega) (by omega)
      obtain ⟨u, eu, u0, u1⟩ := at_val l (i + 3) 5000 hl hb (by omega) (by omega)
      have ws : wrap64 (1 + v) = 1 + v := w64 (by omega) (by omega)
      refine Ev.step (fun k => rfl) ?_
      simp only [laws_FnRtt.j1, if_true, ev, w64 (x := i + 3) (by omega) (by omega), eu, Option.bind_some, ws]
      rcases hI with ⟨rfl, rfl, rfl, rfl, rfl, rfl, rfl⟩ | ⟨hi1, hI⟩
      · obtain ⟨e1, e2⟩ := step_first (1 + v) u (by omega) (by omega)
        refine Ev.bind e1 (Ev.bind e2 ?_)
        simp only [beq_self_eq_true, Bool.not_true, Bool.or_false, Bool.false_eq_true, if_false, if_true]
        have hm : mx 0 (1 + v) = 1 + v := by unfold mx; rw [if_pos (by omega)]
        refine round l 0 0 0 0 0 0 0 (1 + v) (1 + v) ((1 + v) / 2) true (1 + v) (by rw [if_pos rfl]) (by rw [hm]; unfold Inv; omega) ?_
        rw [hm, show wrap64 (0 + 1) = 1 by decide +kernel]
        exact ih 1 (1 + v) (1 + v) (1 + v) (1 + v) (1 + v) ((1 + v) / 2) (by omega) (by omega) (by omega) (.inr ⟨by omega, by unfold Inv; omega⟩)
      · obtain ⟨ok, hz⟩ := hI.ok
        unfold Inv at hI
        obtain ⟨adj, hadj, ha1, ha2, e1, e2⟩ := step_val a b c d (1 + v) u ok hz (by omega) (by omega)
        refine Ev.bind e1 (Ev.bind e2 ?_)
        simp only [beq_self_eq_true, Bool.not_true, Bool.or_false, Bool.false_eq_true, if_false, show ¬ lo = 0 by omega]
        have hmn : mn b (1 + v) = if decide (1 + v < lo) = true then 1 + v else lo := by
          unfold mn
          by_cases e : 1 + v < lo
          · rw [if_pos (by omega), if_pos (decide_eq_true e)]
          · rw [if_neg (by omega), if_neg (by simpa using e)]; omega
        have hmx : hi ≤ mx hi (1 + v) ∧ 1 + v ≤ mx hi (1 + v) ∧ mx hi (1 + v) ≤ 90000 := by unfold mx; split <;> omega
        have hmn2 : mn b (1 + v) ≤ lo ∧ mn b (1 + v) ≤ 1 + v ∧ 1 ≤ mn b (1 + v) := by unfold mn; split <;> omega
        have hv : 0 ≤ mx (c - adj) (adj - c) ∧ mx (c - adj) (adj - c) ≤ 90000 := by unfold mx; split <;> omega
        have hI' : Inv (mn b (1 + v)) (mx hi (1 + v)) (1 + v) (mn b (1 + v)) ((7 * c + adj) / 8) ((3 * d + mx (c - adj) (adj - c)) / 4) := by unfold Inv; omega
        refine round l lo hi i a b c d (1 + v) _ _ _ _ hmn hI' ?_
        rw [w64 (x := i + 1) (by omega) (by omega)]
        exact ih (i + 1) _ _ _ _ _ _ (by omega) (by omega) (by omega) (.inr ⟨by omega, hI'⟩)
    · rw [decide_eq_false hd]
      exact ends l lo hi i a b c d (hI.resolve_left (by omega)).2

theorem FnRtt (l0 : List Int) (q0 : l0.length ≤ maxLen ∧ ∀ x ∈ l0, (Lit.int .u8 x).wf = true) : ∃ k, laws_FnRtt.f k l0 = some true := by
  refine Ev.rounds (g := fun k => laws_FnRtt.f k l0) ?_
  simp only [laws_FnRtt.f]
  refine Ev_ite (fun _ => Ev.now _) (fun c0 => ?_)
  exact rtt_loop l0 (by omega) (fun x hx => by have := bounds_u8 (q0.2 x hx); omega) 40 0 0 0 0 0 0 0 rfl (by omega) (by omega) (.inl ⟨rfl, rfl, rfl, rfl, rfl, rfl, rfl⟩)

end Go.Proofs.Ytkfoneckbnggoaa.Pure
