/- For all whole numbers of Go's int: the program's NumBytes and the reference's tell the same number. No condition. -/
import Derived.Test.YtjnmcdajolbjfaaPFnExactNumBytesx1
import Derived.Test.YtjnmcdajolbjfaaMath
namespace Go.Proofs.Ytjnmcdajolbjfaa.Pure
open Go.RowKit Go.Proofs.Ytjnmcdajolbjfaa.PFnExactNumBytes Go.Proofs.YtjnmcdajolbjfaaW.PrintWords Go.Proofs.YtjnmcdajolbjfaaW.PrintLast Go.Proofs.YtjnmcdajolbjfaaW.PrintMore Go.Proofs.Ytjnmcdajolbjfaa.Math
set_option linter.unusedVariables false
set_option linter.unusedSimpArgs false

theorem power_ev {n : Int} (h0 : 0 ≤ n) (h1 : n ≤ 7) : Ev (fun k => spec_l01Power.f k n) (256 ^ n.toNat) := by
  have h : n = 0 ∨ n = 1 ∨ n = 2 ∨ n = 3 ∨ n = 4 ∨ n = 5 ∨ n = 6 ∨ n = 7 := by omega
  rcases h with rfl | rfl | rfl | rfl | rfl | rfl | rfl | rfl <;> exact Ev.of (spec_l01Power.mono _) (k := 9) (by decide +kernel)

/-- How many bytes: the answer, for a distance. -/
def nbOf (d : Int) : Int := if d ≤ 128 then 1 else if d ≤ 32768 then 2 else if d ≤ 8388608 then 3 else if d ≤ 2147483648 then 4 else 0

theorem spec_loop (x0 x1 : Int) : Ev (fun k => spec_NumBytes.l0 k x0 x1 1) (nbOf (wrap64 (x0 - x1))) := by
  unfold nbOf
  refine Ev.step (fun k => rfl) ?_; simp only [spec_NumBytes.l0]
  simp only [show (1 : Int) ≤ 4 by decide, if_true]
  refine Ev.bind (power_ev (by decide) (by decide)) ?_
  simp only [show wrap64 (((256 : Int) ^ Int.toNat 1).tdiv 2) = 128 by decide +kernel]
  refine Ev_ite (fun c => Ev_now (by rw [if_pos]; exact c)) (fun c1 => ?_)
  rw [if_neg (by exact c1)]
  refine Ev.step (fun k => rfl) ?_; simp only [spec_NumBytes.l0]
  simp only [show wrap64 (1 + 1) = 2 by decide +kernel, show (2 : Int) ≤ 4 by decide, if_true]
  refine Ev.bind (power_ev (by decide) (by decide)) ?_
  simp only [show wrap64 (((256 : Int) ^ Int.toNat 2).tdiv 2) = 32768 by decide +kernel]
  refine Ev_ite (fun c => Ev_now (by rw [if_pos]; exact c)) (fun c2 => ?_)
  rw [if_neg (by exact c2)]
  refine Ev.step (fun k => rfl) ?_; simp only [spec_NumBytes.l0]
  simp only [show wrap64 (2 + 1) = 3 by decide +kernel, show (3 : Int) ≤ 4 by decide, if_true]
  refine Ev.bind (power_ev (by decide) (by decide)) ?_
  simp only [show wrap64 (((256 : Int) ^ Int.toNat 3).tdiv 2) = 8388608 by decide +kernel]
  refine Ev_ite (fun c => Ev_now (by rw [if_pos]; exact c)) (fun c3 => ?_)
  rw [if_neg (by exact c3)]
  refine Ev.step (fun k => rfl) ?_; simp only [spec_NumBytes.l0]
  simp only [show wrap64 (3 + 1) = 4 by decide +kernel, show (4 : Int) ≤ 4 by decide, if_true]
  refine Ev.bind (power_ev (by decide) (by decide)) ?_
  simp only [show wrap64 (((256 : Int) ^ Int.toNat 4).tdiv 2) = 2147483648 by decide +kernel]
  refine Ev_ite (fun c => Ev_now (by rw [if_pos]; exact c)) (fun c4 => ?_)
  rw [if_neg (by exact c4)]
  refine Ev.step (fun k => rfl) ?_; simp only [spec_NumBytes.l0]
  simp only [show wrap64 (4 + 1) = 5 by decide +kernel, show ¬ (5 : Int) ≤ 4 by decide, if_false]
  exact Ev.now _

theorem impl_loop (x0 x1 : Int) : Ev (fun k => impl_NumBytes.l0 k x0 x1 1) (nbOf (wrap64 (x0 - x1))) := by
  unfold nbOf
  refine Ev.step (fun k => rfl) ?_; simp only [impl_NumBytes.l0]
  simp only [show (1 : Int) ≤ 4 by decide, show (0 : Int) ≤ wrap64 (wrap64 (8 * 1) - 1) by decide +kernel, show shl .i64 1 (wrap64 (wrap64 (8 * 1) - 1)) = 128 by decide +kernel, if_true]
  refine Ev_ite (fun c => Ev_now (by rw [if_pos c])) (fun c1 => ?_)
  rw [if_neg c1]
  refine Ev.step (fun k => rfl) ?_; simp only [impl_NumBytes.l0]
  simp only [show wrap64 (1 + 1) = 2 by decide +kernel, show (2 : Int) ≤ 4 by decide, show (0 : Int) ≤ wrap64 (wrap64 (8 * 2) - 1) by decide +kernel, show shl .i64 1 (wrap64 (wrap64 (8 * 2) - 1)) = 32768 by decide +kernel, if_true]
  refine Ev_ite (fun c => Ev_now (by rw [if_pos c])) (fun c2 => ?_)
  rw [if_neg c2]
  refine Ev.step (fun k => rfl) ?_; simp only [impl_NumBytes.l0]
  simp only [show wrap64 (2 + 1) = 3 by decide +kernel, show (3 : Int) ≤ 4 by decide, show (0 : Int) ≤ wrap64 (wrap64 (8 * 3) - 1) by decide +kernel, show shl .i64 1 (wrap64 (wrap64 (8 * 3) - 1)) = 8388608 by decide +kernel, if_true]
  refine Ev_ite (fun c => Ev_now (by rw [if_pos c])) (fun c3 => ?_)
  rw [if_neg c3]
  refine Ev.step (fun k => rfl) ?_; simp only [impl_NumBytes.l0]
  simp only [show wrap64 (3 + 1) = 4 by decide +kernel, show (4 : Int) ≤ 4 by decide, show (0 : Int) ≤ wrap64 (wrap64 (8 * 4) - 1) by decide +kernel, show shl .i64 1 (wrap64 (wrap64 (8 * 4) - 1)) = 2147483648 by decide +kernel, if_true]
  refine Ev_ite (fun c => Ev_now (by rw [if_pos c])) (fun c4 => ?_)
  rw [if_neg c4]
  refine Ev.step (fun k => rfl) ?_; simp only [impl_NumBytes.l0]
  simp only [show wrap64 (4 + 1) = 5 by decide +kernel, show ¬ (5 : Int) ≤ 4 by decide, if_false]
  exact Ev.now _

/-- What both tell. -/
def numBytesV (num acked : Int) : Int := if num < 0 ∨ num > 4611686018427387903 ∨ acked < -1 ∨ acked ≥ num then 0 else nbOf (wrap64 (num - acked))

theorem spec_NumBytes_ev (a0 a1 : Int) : Ev (fun k => spec_NumBytes.f k a0 a1) (numBytesV a0 a1) := by
  have yes : ∀ b, (b = true → numBytesV a0 a1 = 0) → (b = false → numBytesV a0 a1 = nbOf (wrap64 (a0 - a1))) → Ev (fun k => spec_NumBytes.j0 k a0 a1 b) (numBytesV a0 a1) := by
    intro b ht hf
    refine Ev.step (fun k => rfl) ?_; simp only [spec_NumBytes.j0]
    refine Ev_ite (fun c => Ev_now (ht c).symm) (fun c => ?_)
    rw [hf (by simpa using c)]
    exact spec_loop a0 a1
  unfold numBytesV at *
  simp only [spec_NumBytes.f]
  refine Ev_ite (fun c1 => yes _ (fun _ => by simp [c1]) (fun h => by cases h)) (fun c1 => ?_)
  refine Ev_ite (fun c2 => yes _ (fun _ => by simp [c2]) (fun h => by cases h)) (fun c2 => ?_)
  refine Ev_ite (fun c3 => yes _ (fun _ => by simp [c3]) (fun h => by cases h)) (fun c3 => ?_)
  exact yes _ (fun h => if_pos (by have := of_decide_eq_true h; omega)) (fun h => if_neg (by have := of_decide_eq_false h; omega))

theorem impl_NumBytes_ev (a0 a1 : Int) (b0 : -9223372036854775808 ≤ a0 ∧ a0 ≤ 9223372036854775807) : Ev (fun k => impl_NumBytes.f k a0 a1) (numBytesV a0 a1) := by
  have yes : ∀ b, (b = true → numBytesV a0 a1 = 0) → (b = false → numBytesV a0 a1 = nbOf (wrap64 (a0 - a1))) → Ev (fun k => impl_NumBytes.j0 k a0 a1 b) (numBytesV a0 a1) := by
    intro b ht hf
    refine Ev.step (fun k => rfl) ?_; simp only [impl_NumBytes.j0]
    refine Ev_ite (fun c => Ev_now (ht c).symm) (fun c => ?_)
    rw [hf (by simpa using c)]
    exact impl_loop a0 a1
  unfold numBytesV at *
  simp only [impl_NumBytes.f, impl_inVar.f]
  by_cases c1 : a0 < 0
  · simp only [show ¬ a0 ≥ 0 by omega, if_false, Option.bind_some, Bool.false_eq_true]
    exact yes _ (fun _ => by simp [c1]) (fun h => by cases h)
  by_cases c2 : a0 > 4611686018427387903
  · simp only [show a0 ≥ 0 by omega, show ¬ a0 ≤ 4611686018427387903 by omega, decide_false, if_true, if_false, Option.bind_some, Bool.false_eq_true]
    exact yes _ (fun _ => by simp [c2]) (fun h => by cases h)
  simp only [show a0 ≥ 0 by omega, show a0 ≤ 4611686018427387903 by omega, decide_true, if_true, Option.bind_some]
  refine Ev_ite (fun c3 => yes _ (fun _ => by simp [c3]) (fun h => by cases h)) (fun c3 => ?_)
  rw [w64 (x := a0 - 1) (by omega) (by omega)]
  exact yes _ (fun h => if_pos (by have := of_decide_eq_true h; omega)) (fun h => if_neg (by have := of_decide_eq_false h; omega))

theorem FnExactNumBytes : laws_FnExactNumBytes.Pure := by
  intro a0 a1 h0 h1
  refine Ev.rounds (g := fun k => laws_FnExactNumBytes.f k a0 a1) ?_
  simp only [laws_FnExactNumBytes.f]
  refine Ev.bind (spec_NumBytes_ev a0 a1) (Ev.bind (impl_NumBytes_ev a0 a1 (bounds_i64 h0)) ?_)
  simp only [if_true]
  exact Ev.now _

end Go.Proofs.Ytjnmcdajolbjfaa.Pure
