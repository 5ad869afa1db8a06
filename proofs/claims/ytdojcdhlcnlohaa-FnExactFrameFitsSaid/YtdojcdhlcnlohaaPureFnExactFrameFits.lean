/- For all whole numbers: the program's FrameFits and the reference's tell the same. No condition. -/
import Derived.Test.YtdojcdhlcnlohaaSFnExactFrameFitsx2
import Derived.Test.YtdojcdhlcnlohaaMath
namespace Go.Proofs.Ytdojcdhlcnlohaa.Pure
open Go.RowKit Go.Proofs.Ytdojcdhlcnlohaa.SFnExactFrameFits Go.Proofs.YtdojcdhlcnlohaaW.PrintWords Go.Proofs.YtdojcdhlcnlohaaW.PrintLast Go.Proofs.YtdojcdhlcnlohaaW.PrintMore Go.Proofs.Ytdojcdhlcnlohaa.Math
set_option linter.unusedVariables false
set_option linter.unusedSimpArgs false

/-- The kinds. -/
def Known (a : Int) : Prop := a = 0 ∨ a = 1 ∨ a = 2 ∨ a = 4 ∨ a = 5 ∨ a = 6 ∨ a = 7 ∨ a = 8 ∨ a = 16 ∨ a = 17 ∨ a = 18 ∨ a = 20 ∨ a = 21 ∨ a = 22 ∨ a = 24 ∨ a = 25 ∨ a = 26 ∨ a = 27 ∨ a = 28 ∨ a = 29 ∨ a = 30 ∨ a = 48
/-- What the reference says of a kind. -/
def kdTab : List (Int × (Bool × Bool × Bool × Bool × Bool × Bool × Int × Int × Int)) :=
  [(0, true, true, false, false, false, false, 0, 0, 0),
   (1, true, false, false, false, false, false, 0, 0, 0),
   (2, true, true, false, false, false, true, 0, 0, 0),
   (4, true, true, true, true, false, false, 0, 0, 0),
   (5, true, true, true, false, false, false, 0, 0, 0),
   (6, true, true, false, false, false, false, 0, 1500, 0),
   (7, true, false, false, false, false, false, 1, 64, 0),
   (8, true, true, true, false, true, false, 0, 1500, 0),
   (16, true, true, false, false, false, false, 0, 0, 0),
   (17, true, true, true, false, false, false, 0, 0, 0),
   (18, true, true, true, false, false, false, 0, 0, 0),
   (20, true, true, false, false, false, false, 0, 0, 0),
   (21, true, true, true, false, false, false, 0, 0, 0),
   (22, true, true, true, false, false, false, 0, 0, 0),
   (24, true, true, true, false, false, false, 1, 8, 8),
   (25, true, true, false, false, false, false, 0, 0, 0),
   (26, true, false, false, false, false, false, 8, 8, 0),
   (27, true, false, false, false, false, false, 8, 8, 0),
   (28, true, true, true, false, false, false, 0, 200, 0),
   (29, true, true, false, false, false, false, 0, 200, 0),
   (30, true, false, false, false, false, false, 0, 0, 0),
   (48, true, false, false, false, false, false, 0, 1500, 0)]
theorem kind_known (a : Int) (h : Known a) : ∃ u, (a, u) ∈ kdTab ∧ Ev (fun k => spec_l05Kind.f k a) u ∧ u.1 = true ∧ shK a = true := by
  unfold Known at h
  rcases h with rfl | rfl | rfl | rfl | rfl | rfl | rfl | rfl | rfl | rfl | rfl | rfl | rfl | rfl | rfl | rfl | rfl | rfl | rfl | rfl | rfl | rfl
  · exact ⟨(true, true, false, false, false, false, 0, 0, 0), by simp [kdTab], Ev.of (spec_l05Kind.mono _) (k := 9) (by kernel_rfl), rfl, by decide +kernel⟩
  · exact ⟨(true, false, false, false, false, false, 0, 0, 0), by simp [kdTab], Ev.of (spec_l05Kind.mono _) (k := 9) (by kernel_rfl), rfl, by decide +kernel⟩
  · exact ⟨(true, true, false, false, false, true, 0, 0, 0), by simp [kdTab], Ev.of (spec_l05Kind.mono _) (k := 9) (by kernel_rfl), rfl, by decide +kernel⟩
  · exact ⟨(true, true, true, true, false, false, 0, 0, 0), by simp [kdTab], Ev.of (spec_l05Kind.mono _) (k := 9) (by kernel_rfl), rfl, by decide +kernel⟩
  · exact ⟨(true, true, true, false, false, false, 0, 0, 0), by simp [kdTab], Ev.of (spec_l05Kind.mono _) (k := 9) (by kernel_rfl), rfl, by decide +kernel⟩
  · exact ⟨(true, true, false, false, false, false, 0, 1500, 0), by simp [kdTab], Ev.of (spec_l05Kind.mono _) (k := 9) (by kernel_rfl), rfl, by decide +kernel⟩
  · exact ⟨(true, false, false, false, false, false, 1, 64, 0), by simp [kdTab], Ev.of (spec_l05Kind.mono _) (k := 9) (by kernel_rfl), rfl, by decide +kernel⟩
  · exact ⟨(true, true, true, false, true, false, 0, 1500, 0), by simp [kdTab], Ev.of (spec_l05Kind.mono _) (k := 9) (by kernel_rfl), rfl, by decide +kernel⟩
  · exact ⟨(true, true, false, false, false, false, 0, 0, 0), by simp [kdTab], Ev.of (spec_l05Kind.mono _) (k := 9) (by kernel_rfl), rfl, by decide +kernel⟩
  · exact ⟨(true, true, true, false, false, false, 0, 0, 0), by simp [kdTab], Ev.of (spec_l05Kind.mono _) (k := 9) (by kernel_rfl), rfl, by decide +kernel⟩
  · exact ⟨(true, true, true, false, false, false, 0, 0, 0), by simp [kdTab], Ev.of (spec_l05Kind.mono _) (k := 9) (by kernel_rfl), rfl, by decide +kernel⟩
  · exact ⟨(true, true, false, false, false, false, 0, 0, 0), by simp [kdTab], Ev.of (spec_l05Kind.mono _) (k := 9) (by kernel_rfl), rfl, by decide +kernel⟩
  · exact ⟨(true, true, true, false, false, false, 0, 0, 0), by simp [kdTab], Ev.of (spec_l05Kind.mono _) (k := 9) (by kernel_rfl), rfl, by decide +kernel⟩
  · exact ⟨(true, true, true, false, false, false, 0, 0, 0), by simp [kdTab], Ev.of (spec_l05Kind.mono _) (k := 9) (by kernel_rfl), rfl, by decide +kernel⟩
  · exact ⟨(true, true, true, false, false, false, 1, 8, 8), by simp [kdTab], Ev.of (spec_l05Kind.mono _) (k := 9) (by kernel_rfl), rfl, by decide +kernel⟩
  · exact ⟨(true, true, false, false, false, false, 0, 0, 0), by simp [kdTab], Ev.of (spec_l05Kind.mono _) (k := 9) (by kernel_rfl), rfl, by decide +kernel⟩
  · exact ⟨(true, false, false, false, false, false, 8, 8, 0), by simp [kdTab], Ev.of (spec_l05Kind.mono _) (k := 9) (by kernel_rfl), rfl, by decide +kernel⟩
  · exact ⟨(true, false, false, false, false, false, 8, 8, 0), by simp [kdTab], Ev.of (spec_l05Kind.mono _) (k := 9) (by kernel_rfl), rfl, by decide +kernel⟩
  · exact ⟨(true, true, true, false, false, false, 0, 200, 0), by simp [kdTab], Ev.of (spec_l05Kind.mono _) (k := 9) (by kernel_rfl), rfl, by decide +kernel⟩
  · exact ⟨(true, true, false, false, false, false, 0, 200, 0), by simp [kdTab], Ev.of (spec_l05Kind.mono _) (k := 9) (by kernel_rfl), rfl, by decide +kernel⟩
  · exact ⟨(true, false, false, false, false, false, 0, 0, 0), by simp [kdTab], Ev.of (spec_l05Kind.mono _) (k := 9) (by kernel_rfl), rfl, by decide +kernel⟩
  · exact ⟨(true, false, false, false, false, false, 0, 1500, 0), by simp [kdTab], Ev.of (spec_l05Kind.mono _) (k := 9) (by kernel_rfl), rfl, by decide +kernel⟩
theorem kind_unknown (a : Int) (h : ¬ Known a) : (∃ u, Ev (fun k => spec_l05Kind.f k a) u ∧ u.1 = false) ∧ shK a = false := by
  unfold Known at h
  simp only [not_or] at h
  obtain ⟨h0, h1, h2, h4, h5, h6, h7, h8, h16, h17, h18, h20, h21, h22, h24, h25, h26, h27, h28, h29, h30, h48⟩ := h
  have e0 : (a == 0) = false := beq_eq_false_iff_ne.mpr h0
  have e1 : (a == 1) = false := beq_eq_false_iff_ne.mpr h1
  have e2 : (a == 2) = false := beq_eq_false_iff_ne.mpr h2
  have e4 : (a == 4) = false := beq_eq_false_iff_ne.mpr h4
  have e5 : (a == 5) = false := beq_eq_false_iff_ne.mpr h5
  have e6 : (a == 6) = false := beq_eq_false_iff_ne.mpr h6
  have e7 : (a == 7) = false := beq_eq_false_iff_ne.mpr h7
  have e8 : (a == 8) = false := beq_eq_false_iff_ne.mpr h8
  have e16 : (a == 16) = false := beq_eq_false_iff_ne.mpr h16
  have e17 : (a == 17) = false := beq_eq_false_iff_ne.mpr h17
  have e18 : (a == 18) = false := beq_eq_false_iff_ne.mpr h18
  have e20 : (a == 20) = false := beq_eq_false_iff_ne.mpr h20
  have e21 : (a == 21) = false := beq_eq_false_iff_ne.mpr h21
  have e22 : (a == 22) = false := beq_eq_false_iff_ne.mpr h22
  have e24 : (a == 24) = false := beq_eq_false_iff_ne.mpr h24
  have e25 : (a == 25) = false := beq_eq_false_iff_ne.mpr h25
  have e26 : (a == 26) = false := beq_eq_false_iff_ne.mpr h26
  have e27 : (a == 27) = false := beq_eq_false_iff_ne.mpr h27
  have e28 : (a == 28) = false := beq_eq_false_iff_ne.mpr h28
  have e29 : (a == 29) = false := beq_eq_false_iff_ne.mpr h29
  have e30 : (a == 30) = false := beq_eq_false_iff_ne.mpr h30
  have e48 : (a == 48) = false := beq_eq_false_iff_ne.mpr h48
  refine ⟨⟨(false, false, false, false, false, false, 0, 0, 0), ?_, rfl⟩, ?_⟩
  · simp only [spec_l05Kind.f, h1, if_false, e30]
    refine Ev.step (fun k => rfl) ?_
    simp only [spec_l05Kind.j0, Bool.false_eq_true, if_false, h0, h16, h20, e25]
    refine Ev.step (fun k => rfl) ?_
    simp only [spec_l05Kind.j1, Bool.false_eq_true, if_false, h2, h4, h5, h17, h21, h18, e22]
    refine Ev.step (fun k => rfl) ?_
    simp only [spec_l05Kind.j2, Bool.false_eq_true, if_false, h6, h7, h8, h24, h26, e27]
    refine Ev.step (fun k => rfl) ?_
    simp only [spec_l05Kind.j3, Bool.false_eq_true, if_false, h28, h29, h48]
    exact Ev.now _
  · have g : ∀ c : Int, a ≠ c → decide (c = a) = false := fun c hc => decide_eq_false (fun e => hc e.symm)
    simp only [shK, shTab, List.any_cons, List.any_nil, g _ h0, g _ h1, g _ h2, g _ h4, g _ h5, g _ h6, g _ h7, g _ h8, g _ h16, g _ h17, g _ h18, g _ h20, g _ h21, g _ h22, g _ h24, g _ h25, g _ h26, g _ h27, g _ h28, g _ h29, g _ h30, g _ h48, Bool.or_false]
theorem kind1 (a : Int) : ∃ u, Ev (fun k => spec_l05Kind.f k a) u ∧ u.1 = shK a := by
  by_cases h : Known a
  · obtain ⟨u, _, hu, h1, h2⟩ := kind_known a h
    exact ⟨u, hu, by rw [h1, h2]⟩
  · obtain ⟨⟨u, hu, h1⟩, h2⟩ := kind_unknown a h
    exact ⟨u, hu, by rw [h1, h2]⟩
theorem shape_ok (a : Int) (w : (Lit.int .i64 a).wf = true) : impl_shapeOf.f a = some ((shV a).1, (shV a).2.1, (shV a).2.2.1, (shV a).2.2.2.1, (shV a).2.2.2.2.1, (shV a).2.2.2.2.2, shK a) := by
  unfold impl_shapeOf.f
  rw [if_pos w]
theorem FnExactFrameFits (a b : Int) (w : (Lit.int .i64 a).wf = true) (w1 : (Lit.int .i64 b).wf = true) : ∃ k, laws_FnExactFrameFits.f k a b = some true := by
  refine Ev.rounds (g := fun k => laws_FnExactFrameFits.f k a b) ?_
  obtain ⟨u, hu, h1⟩ := kind1 a
  obtain ⟨r, hi⟩ : ∃ r, impl_FrameFits.f a b = some r := by
    simp only [impl_FrameFits.f, shape_ok a w, Option.bind_some]
    repeat' (first | exact ⟨_, rfl⟩ | split)
  have hs : Ev (fun k => spec_FrameFits.f k a b) r := by
    simp only [impl_FrameFits.f, shape_ok a w, Option.bind_some] at hi
    simp only [spec_FrameFits.f]
    refine Ev.bind hu ?_
    rw [h1, hi]
    exact Ev.now _
  simp only [laws_FnExactFrameFits.f]
  refine Ev.bind hs ?_
  simp only [hi, Option.bind_some, bne_self_eq_false, Bool.false_eq_true, if_false]
  exact Ev.now _

end Go.Proofs.Ytdojcdhlcnlohaa.Pure
