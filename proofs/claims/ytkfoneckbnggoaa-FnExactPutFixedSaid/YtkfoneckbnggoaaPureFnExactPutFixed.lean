/- For all whole numbers of Go's int: the program's PutFixed and the reference's tell the same bytes and code, in memory of its own. No condition. -/
import Derived.Test.YtkfoneckbnggoaaPFnExactPutFixedx2
import Derived.Test.YtkfoneckbnggoaaMath
namespace Go.Proofs.Ytkfoneckbnggoaa.Pure
open Go.RowKit Go.Proofs.Ytkfoneckbnggoaa.PFnExactPutFixed Go.Proofs.YtkfoneckbnggoaaW.PrintWords Go.Proofs.YtkfoneckbnggoaaW.PrintLast Go.Proofs.YtkfoneckbnggoaaW.PrintMore Go.Proofs.Ytkfoneckbnggoaa.Math
set_option linter.unusedVariables false
set_option linter.unusedSimpArgs false

theorem eqByteS_loop (l : List Int) (hl : l.length ≤ 281474976710656) (n : Nat) : ∀ (i : Nat), l.length - i = n → i ≤ l.length → Ev (fun k => laws_eqByteS.l0 k l l (i : Int)) true := by
  induction n with
  | zero =>
    intro i hn hi
    refine Ev.step (fun k => rfl) ?_
    simp only [laws_eqByteS.l0, show ¬ ((i : Int) < (l.length : Int)) by omega, if_false]
    exact Ev.now _
  | succ n ih =>
    intro i hn hi
    have H := ih (i + 1) (by omega) (by omega)
    refine Ev.step (fun k => rfl) ?_
    simp only [laws_eqByteS.l0, show ((i : Int) < (l.length : Int)) by omega, show (0 : Int) ≤ (i : Int) by omega, if_true, next64 (show i < 4611686018427387904 by omega)]
    exact H
theorem eqByteS_ev (l : List Int) (hl : l.length ≤ 281474976710656) : Ev (fun k => laws_eqByteS.f k l l) true := by
  simp only [laws_eqByteS.f, if_true]
  exact eqByteS_loop l hl l.length 0 (by omega) (by omega)
theorem markByteS_loop (m : Int) (N : Nat) (hm : 0 ≤ m) (hN : m + N ≤ 4611686018427387903) (n : Nat) : ∀ (x : List Int) (i : Nat), N - i = n → i ≤ N → x.length = N → (∀ j, j < i → x[j]? = (marks m N)[j]?) → Ev (fun k => laws_markByteS.l0 k x (m + i) (i : Int)) (m + N, marks m N) := by
  induction n with
  | zero =>
    intro x i hn hi hx h
    obtain rfl : i = N := by omega
    refine Ev.step (fun k => rfl) ?_
    simp only [laws_markByteS.l0, show ¬ ((i : Int) < (x.length : Int)) by omega, if_false]
    exact Ev_now (by rw [prefix_all (l := marks m i) (by rw [marks_length, hx]) (fun j hj => h j (by rw [marks_length] at hj; exact hj))])
  | succ n ih =>
    intro x i hn hi hx h
    have H := ih (x.set i ((m + i) % 256)) (i + 1) (by omega) (by omega) (by rw [List.length_set]; exact hx) (set_prefix (by rw [marks_length, hx]) (marks_get m (by omega)) h)
    rw [show m + ((i + 1 : Nat) : Int) = m + i + 1 by omega] at H
    refine Ev.step (fun k => rfl) ?_
    simp only [laws_markByteS.l0, show ((i : Int) < (x.length : Int)) by omega, show (0 : Int) ≤ (i : Int) by omega, if_true, Int.toNat_natCast, next64 (show i < 4611686018427387904 by omega), w64 (x := m + i + 1) (by omega) (by omega)]
    exact H
theorem markByteS_ev (x : List Int) (m : Int) (hm : 0 ≤ m) (hN : m + x.length ≤ 4611686018427387903) : Ev (fun k => laws_markByteS.f k x m) (m + x.length, marks m x.length) := by
  have H := markByteS_loop m x.length hm hN x.length x 0 (by omega) (by omega) rfl (fun j hj => by omega)
  rw [show m + ((0 : Nat) : Int) = m by omega] at H
  simp only [laws_markByteS.f]
  exact H
theorem heldByteS_loop (m : Int) (N : Nat) (hm : 0 ≤ m) (hN : m + N ≤ 4611686018427387903) (n : Nat) : ∀ (i : Nat), N - i = n → i ≤ N → Ev (fun k => laws_heldByteS.l0 k (marks m N) (m + i) (i : Int)) (m + N) := by
  induction n with
  | zero =>
    intro i hn hi
    obtain rfl : i = N := by omega
    refine Ev.step (fun k => rfl) ?_
    simp only [laws_heldByteS.l0, marks_length, show ¬ ((i : Int) < (i : Int)) by omega, if_false]
    exact Ev.now _
  | succ n ih =>
    intro i hn hi
    have H := ih (i + 1) (by omega) (by omega)
    rw [show m + ((i + 1 : Nat) : Int) = m + i + 1 by omega] at H
    refine Ev.step (fun k => rfl) ?_
    simp only [laws_heldByteS.l0, marks_length, show ((i : Int) < (N : Int)) by omega, show (0 : Int) ≤ (i : Int) by omega, rd_some (marks_get m (show i < N by omega)), if_true, next64 (show i < 4611686018427387904 by omega), w64 (x := m + i + 1) (by omega) (by omega)]
    exact H
theorem heldByteS_ev (n : Nat) (m : Int) (hm : 0 ≤ m) (hN : m + n ≤ 4611686018427387903) : Ev (fun k => laws_heldByteS.f k (marks m n) m) (m + n) := by
  have H := heldByteS_loop m n hm hN n 0 (by omega) (by omega)
  rw [show m + ((0 : Nat) : Int) = m by omega] at H
  simp only [laws_heldByteS.f]
  exact H
theorem power_ev {n : Int} (h0 : 0 ≤ n) (h1 : n ≤ 7) : Ev (fun k => spec_l01Power.f k n) (256 ^ n.toNat) := by
  have h : n = 0 ∨ n = 1 ∨ n = 2 ∨ n = 3 ∨ n = 4 ∨ n = 5 ∨ n = 6 ∨ n = 7 := by omega
  rcases h with rfl | rfl | rfl | rfl | rfl | rfl | rfl | rfl <;> exact Ev.of (spec_l01Power.mono _) (k := 9) (by decide +kernel)
theorem digits_ev (n : Nat) : ∀ v : Int, n ≤ 64 → 0 ≤ v → v ≤ 9223372036854775807 → Ev (fun k => spec_l01Digits.f k v (n : Int)) (dg v n) := by
  induction n with
  | zero =>
    intro v hn h0 h1
    refine Ev.step (fun k => rfl) ?_
    simp only [spec_l01Digits.f, show ((0 : Nat) : Int) = 0 from rfl, if_true]
    exact Ev.now _
  | succ n ih =>
    intro v hn h0 h1
    have H := ih (v / 256) (by omega) (by omega) (by omega)
    refine Ev.step (fun k => rfl) ?_
    simp only [spec_l01Digits.f, show ¬ (((n + 1 : Nat) : Int) = 0) by omega, if_false, tdiv_nn h0, tmod_nn h0, w64 (x := v / 256) (by omega) (by omega), show ((n + 1 : Nat) : Int) - 1 = (n : Int) by omega, w64 (x := (n : Int)) (by omega) (by omega)]
    refine Ev.bind H ?_
    simp only [dg_length, show n < 140737488355328 by omega, if_true]
    exact Ev_now (by rw [dg_snoc v h0 n, Int.emod_emod])
theorem shr_digit (v : Int) (m : Nat) (hm : m ≤ 7) (h0 : 0 ≤ v) (h1 : v ≤ 9223372036854775807) : (shr .u64 (IntKind.u64.wrap v) (wrap64 (8 * (m : Int)))) % 256 = v / 256 ^ m % 256 := by
  have hp : (2 : Int) ^ (8 * m) = 256 ^ m := by rw [Int.pow_mul]; rfl
  have e : min (8 * (m : Int)).toNat IntKind.u64.bits = 8 * m := by simp only [IntKind.bits]; omega
  unfold shr
  rw [wraps_u64 v h0 (by omega), w64 (by omega) (by omega), e, hp]
theorem fixed_loop (v : Int) (h0 : 0 ≤ v) (h1 : v ≤ 9223372036854775807) (m : Nat) : ∀ l : List Int, m ≤ 8 → l.length + m < 140737488355328 → Ev (fun k => impl_fixed.l0 k l v ((m : Int) - 1)) (l ++ dg v m) := by
  induction m with
  | zero =>
    intro l hm hl
    refine Ev.step (fun k => rfl) ?_
    simp only [impl_fixed.l0, show ¬ (((0 : Nat) : Int) - 1 ≥ 0) by omega, if_false]
    exact Ev_now (by simp [dg])
  | succ m ih =>
    intro l hm hl
    have e := shr_digit v m (by omega) h0 h1
    refine Ev.step (fun k => rfl) ?_
    simp only [impl_fixed.l0, show ((m + 1 : Nat) : Int) - 1 = (m : Int) by omega, show (m : Int) ≥ 0 by omega, show (0 : Int) ≤ wrap64 (8 * (m : Int)) by rw [w64 (by omega) (by omega)]; omega, if_true, show l.length < 140737488355328 by omega, e, w64 (x := (m : Int) - 1) (by omega) (by omega)]
    exact Ev_cast (ih (l ++ [v / 256 ^ m % 256]) (by omega) (by simp; omega)) (by simp [dg])
theorem fixed_ev (v : Int) (n : Nat) (l : List Int) (h0 : 0 ≤ v) (h1 : v ≤ 9223372036854775807) (hn : n ≤ 8) (hl : l.length + 8 < 140737488355328) : Ev (fun k => impl_fixed.f k l v (n : Int)) (l ++ dg v n) := by
  simp only [impl_fixed.f, w64 (x := (n : Int) - 1) (by omega) (by omega)]
  exact fixed_loop v h0 h1 n l hn (by omega)

theorem shr_zero (v n : Int) (hn0 : 1 ≤ n) (hn1 : n ≤ 7) (h0 : 0 ≤ v) : 0 ≤ wrap64 (8 * n) ∧ (shr .i64 v (wrap64 (8 * n)) = 0 ↔ v < 256 ^ n.toNat) := by
  have h : n = 1 ∨ n = 2 ∨ n = 3 ∨ n = 4 ∨ n = 5 ∨ n = 6 ∨ n = 7 := by omega
  refine ⟨by rw [w64 (by omega) (by omega)]; omega, ?_⟩
  rw [w64 (by omega) (by omega)]
  rcases h with rfl | rfl | rfl | rfl | rfl | rfl | rfl <;> simp [shr, IntKind.bits] <;> omega
/-- Both answer, and the same. -/
theorem both (v n : Int) (h1 : v ≤ 9223372036854775807) : ∃ w e, Ev (fun k => spec_PutFixed.f k v n) (w, e) ∧ Ev (fun k => impl_PutFixed.f k v n) (w, e) ∧ w.length ≤ 8 := by
  simp only [spec_PutFixed.f, impl_PutFixed.f]
  by_cases c1 : n < 1
  · simp only [c1, if_true]; exact ⟨_, _, Ev.now _, Ev.now _, by simp⟩
  by_cases c2 : n > 8
  · simp only [c1, c2, if_true, if_false]; exact ⟨_, _, Ev.now _, Ev.now _, by simp⟩
  by_cases c3 : v < 0
  · simp only [c1, c2, c3, if_true, if_false]; exact ⟨_, _, Ev.now _, Ev.now _, by simp⟩
  simp only [c1, c2, c3, if_false]
  obtain ⟨m, rfl⟩ := Int.eq_ofNat_of_zero_le (show 0 ≤ n by omega)
  have hs := digits_ev m v (by omega) (by omega) h1
  have hi := fixed_ev v m [] (by omega) h1 (by omega) (by simp)
  rw [List.nil_append] at hi
  by_cases c4 : (m : Int) < 8
  · have z := shr_zero v m (by omega) (by omega) (by omega)
    simp only [c4, if_true, z.1]
    by_cases c5 : v < 256 ^ (m : Int).toNat
    · simp only [z.2.mpr c5, if_true]
      refine ⟨_, _, ?_, Ev.bind hi (Ev.now _), by rw [dg_length]; omega⟩
      refine Ev.bind (power_ev (by omega) (by omega)) ?_
      simp only [show ¬ v ≥ 256 ^ (m : Int).toNat by omega, if_false]
      exact Ev.bind hs (Ev.now _)
    · simp only [show ¬ (shr .i64 v (wrap64 (8 * (m : Int))) = 0) from fun h => c5 (z.2.mp h), if_false]
      refine ⟨_, _, ?_, Ev.now _, by simp⟩
      refine Ev.bind (power_ev (by omega) (by omega)) ?_
      simp only [show v ≥ 256 ^ (m : Int).toNat by omega, if_true]
      exact Ev.now _
  · simp only [c4, if_false]
    exact ⟨_, _, Ev.bind hs (Ev.now _), Ev.bind hi (Ev.now _), by rw [dg_length]; omega⟩

theorem FnExactPutFixed : laws_FnExactPutFixed.Pure := by
  intro a0 a1 h0 h1
  have b0 := bounds_i64 h0
  refine Ev.rounds (g := fun k => laws_FnExactPutFixed.f k a0 a1) ?_
  obtain ⟨w, e, hs, hi, hw⟩ := both a0 a1 b0.2
  simp only [laws_FnExactPutFixed.f]
  repeat' first
    | exact Ev.now _
    | refine Ev.bind hs ?_
    | refine Ev.bind hi ?_
    | refine Ev.bind (eqByteS_ev _ (by omega)) ?_
    | refine Ev.bind (markByteS_ev _ _ (by omega) (by omega)) ?_
    | refine Ev.bind (heldByteS_ev _ _ (by omega) (by omega)) ?_
    | simp only [if_true, if_false, bne_self_eq_false, Bool.false_eq_true, marks_length]
    | (refine Ev.step (fun k => rfl) ?_; simp only [laws_FnExactPutFixed.j0, laws_FnExactPutFixed.j1])
    | refine Ev_ite (fun c => absurd c (by omega)) (fun _ => ?_)

end Go.Proofs.Ytkfoneckbnggoaa.Pure
