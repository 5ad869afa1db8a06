/- For all whole numbers of Go's int: the program's ExpandNum and the reference's tell the same number. No condition. -/
import Derived.Test.YtjnmcdajolbjfaaPFnExactExpandNumx2
import Derived.Test.YtjnmcdajolbjfaaMath
namespace Go.Proofs.Ytjnmcdajolbjfaa.Pure
open Go.RowKit Go.Proofs.Ytjnmcdajolbjfaa.PFnExactExpandNum Go.Proofs.YtjnmcdajolbjfaaW.PrintWords Go.Proofs.YtjnmcdajolbjfaaW.PrintLast Go.Proofs.YtjnmcdajolbjfaaW.PrintMore Go.Proofs.Ytjnmcdajolbjfaa.Math
set_option linter.unusedVariables false
set_option linter.unusedSimpArgs false

theorem power_ev {n : Int} (h0 : 0 ≤ n) (h1 : n ≤ 7) : Ev (fun k => spec_l01Power.f k n) (256 ^ n.toNat) := by
  have h : n = 0 ∨ n = 1 ∨ n = 2 ∨ n = 3 ∨ n = 4 ∨ n = 5 ∨ n = 6 ∨ n = 7 := by omega
  rcases h with rfl | rfl | rfl | rfl | rfl | rfl | rfl | rfl <;> exact Ev.of (spec_l01Power.mono _) (k := 9) (by decide +kernel)

theorem j3_eq (k : Nat) (x7 x9 : Int) (b : Bool) : impl_ExpandNum.j3 k x7 x9 b = spec_ExpandNum.j3 k x7 x9 b := by
  cases k with
  | zero => simp only [impl_ExpandNum.j3, spec_ExpandNum.j3]
  | succ k => simp only [impl_ExpandNum.j3, spec_ExpandNum.j3]
theorem j2_eq (k : Nat) (x7 x8 x9 : Int) (b : Bool) (h : b = true → wrap64 (x9 + x7) ≤ 4611686018427387903) : impl_ExpandNum.j2 k x7 x8 x9 b = spec_ExpandNum.j2 k x7 x8 x9 b := by
  cases k with
  | zero => simp only [impl_ExpandNum.j2, spec_ExpandNum.j2]
  | succ k =>
    simp only [impl_ExpandNum.j2, spec_ExpandNum.j2, j3_eq]
    by_cases hb : b = true
    · have := h hb
      rw [if_pos hb, if_pos hb, if_neg (by omega)]
    · rw [if_neg hb, if_neg hb]
theorem j1_eq (k : Nat) (x0 x1 x7 : Int) (b : Bool) : impl_ExpandNum.j1 k x0 x1 x7 b = spec_ExpandNum.j1 k x0 x1 x7 b := by
  cases k with
  | zero => simp only [impl_ExpandNum.j1, spec_ExpandNum.j1]
  | succ k =>
    simp only [impl_ExpandNum.j1, spec_ExpandNum.j1]
    rw [j2_eq _ _ _ _ _ (fun h => of_decide_eq_true h), j2_eq _ _ _ _ false (fun h => by cases h)]
theorem j1_total (x0 x1 x7 : Int) (b : Bool) (h7 : x7 ≠ 0) : ∃ r, Ev (fun k => spec_ExpandNum.j1 k x0 x1 x7 b) r := by
  have h : ∃ r, spec_ExpandNum.j1 3 x0 x1 x7 b = some r := by
    simp only [spec_ExpandNum.j1, spec_ExpandNum.j2, spec_ExpandNum.j3, if_neg h7]
    repeat' first | exact ⟨_, rfl⟩ | split
  obtain ⟨r, h⟩ := h
  exact ⟨r, Ev.of (fun k => (spec_ExpandNum.mono_l k).2.1 _ _ _ _) h⟩
theorem shl_pow (n : Int) (h0 : 1 ≤ n) (h1 : n ≤ 4) : 0 ≤ wrap64 (8 * n) ∧ shl .i64 1 (wrap64 (8 * n)) = 256 ^ n.toNat := by
  have h : n = 1 ∨ n = 2 ∨ n = 3 ∨ n = 4 := by omega
  rcases h with rfl | rfl | rfl | rfl <;> decide +kernel
/-- Both answer, and the same. -/
theorem both (a0 a1 a2 : Int) : ∃ r, Ev (fun k => spec_ExpandNum.f k a0 a1 a2) r ∧ Ev (fun k => impl_ExpandNum.f k a0 a1 a2) r := by
  have yes : Ev (fun k => spec_ExpandNum.j0 k a0 a1 a2 true) (-1) ∧ Ev (fun k => impl_ExpandNum.j0 k a0 a1 a2 true) (-1) :=
    ⟨Ev.step (f := fun _ => some (-1)) (fun k => by simp only [spec_ExpandNum.j0, if_true]) (Ev.now _), Ev.step (f := fun _ => some (-1)) (fun k => by simp only [impl_ExpandNum.j0, if_true]) (Ev.now _)⟩
  simp only [spec_ExpandNum.f, impl_ExpandNum.f]
  by_cases c1 : a0 < -1
  · simp only [c1, if_true]; exact ⟨_, yes⟩
  by_cases c2 : a0 > 4611686018427387903
  · simp only [c1, c2, if_true, if_false]; exact ⟨_, yes⟩
  by_cases c3 : a2 < 1
  · simp only [c1, c2, c3, if_true, if_false]; exact ⟨_, yes⟩
  by_cases c4 : a2 > 4
  · simp only [c1, c2, c3, c4, decide_true, if_false]; exact ⟨_, yes⟩
  simp only [c1, c2, c3, c4, decide_false, if_false]
  have hs := shl_pow a2 (by omega) (by omega)
  have hw : (256 : Int) ^ a2.toNat ≠ 0 := by have : (0 : Int) < 256 ^ a2.toNat := Int.pow_pos (by decide); omega
  have step : ∀ b : Bool, ∃ r, Ev (fun k => spec_ExpandNum.j1 k a0 a1 (256 ^ a2.toNat) b) r ∧ Ev (fun k => impl_ExpandNum.j1 k a0 a1 (256 ^ a2.toNat) b) r := by
    intro b
    obtain ⟨r, h⟩ := j1_total a0 a1 (256 ^ a2.toNat) b hw
    exact ⟨r, h, Ev.congr (fun k => j1_eq k _ _ _ _) h⟩
  by_cases c5 : a1 < 0
  · obtain ⟨r, h, h'⟩ := step true
    refine ⟨r, ?_, ?_⟩
    · refine Ev.step (fun k => rfl) ?_; simp only [spec_ExpandNum.j0, Bool.false_eq_true, if_false]
      refine Ev.bind (power_ev (by omega) (by omega)) ?_
      simp only [c5, if_true]; exact h
    · refine Ev.step (fun k => rfl) ?_; simp only [impl_ExpandNum.j0, Bool.false_eq_true, if_false, hs.1, if_true, hs.2, c5]; exact h'
  · obtain ⟨r, h, h'⟩ := step (decide (a1 ≥ 256 ^ a2.toNat))
    refine ⟨r, ?_, ?_⟩
    · refine Ev.step (fun k => rfl) ?_; simp only [spec_ExpandNum.j0, Bool.false_eq_true, if_false]
      refine Ev.bind (power_ev (by omega) (by omega)) ?_
      simp only [c5, if_false]; exact h
    · refine Ev.step (fun k => rfl) ?_; simp only [impl_ExpandNum.j0, Bool.false_eq_true, if_false, hs.1, if_true, hs.2, c5]; exact h'

theorem FnExactExpandNum : laws_FnExactExpandNum.Pure := by
  intro a0 a1 a2 h0 h1 h2
  refine Ev.rounds (g := fun k => laws_FnExactExpandNum.f k a0 a1 a2) ?_
  simp only [laws_FnExactExpandNum.f]
  obtain ⟨r, h, h'⟩ := both a0 a1 a2
  refine Ev.bind h (Ev.bind h' ?_)
  simp only [if_true]
  exact Ev.now _

end Go.Proofs.Ytjnmcdajolbjfaa.Pure
