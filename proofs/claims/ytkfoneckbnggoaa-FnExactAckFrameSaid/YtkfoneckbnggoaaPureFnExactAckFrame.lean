/- For all lists of ranges and whole numbers of Go's int: the program's AckFrame and the reference's tell the same frame and code, in memory of its own. No condition. -/
import Derived.Test.YtkfoneckbnggoaaMFnExactAckFramex7
import Derived.Test.YtkfoneckbnggoaaMath
namespace Go.Proofs.Ytkfoneckbnggoaa.Pure
open Go.RowKit Go.Proofs.Ytkfoneckbnggoaa.MFnExactAckFrame Go.Proofs.YtkfoneckbnggoaaW.PrintWords Go.Proofs.YtkfoneckbnggoaaW.PrintLast Go.Proofs.YtkfoneckbnggoaaW.PrintMore Go.Proofs.Ytkfoneckbnggoaa.Math
set_option linter.unusedVariables false
set_option linter.unusedSimpArgs false

theorem rdR_some {l : List S73} {i : Nat} {v : S73} (h : l[i]? = some v) : rd_T73 l (i : Int) = v := by
  unfold rd_T73; rw [Int.toNat_natCast, List.getD_eq_getElem?_getD, h]; rfl
theorem rdR_get (l : List S73) {i : Nat} (h : i < l.length) : l[i]? = some (rd_T73 l (i : Int)) := by
  have e := List.getElem?_eq_getElem h
  rw [rdR_some e]; exact e
theorem rdW_some {l : List S75} {i : Nat} {v : S75} (h : l[i]? = some v) : rd_T75 l (i : Int) = v := by
  unfold rd_T75; rw [Int.toNat_natCast, List.getD_eq_getElem?_getD, h]; rfl
theorem rdW_get (l : List S75) {i : Nat} (h : i < l.length) : l[i]? = some (rd_T75 l (i : Int)) := by
  have e := List.getElem?_eq_getElem h
  rw [rdW_some e]; exact e
/-- A range of the laws' package, in the program's. -/
def conv (x : S75) : S73 := ⟨x.f0, x.f1⟩
theorem szRangeS_at (l : List S75) (m : Int) (hl : l.length ≤ maxLen) (hm : 0 ≤ m ∧ m ≤ 1048576) : (m < l.length ∧ laws_szRangeS.f l m = some (-1)) ∨ (l.length ≤ m ∧ laws_szRangeS.f l m = some (m - l.length)) := by
  unfold maxLen at hl
  unfold laws_szRangeS.f
  rw [w64 (by omega) (by omega)]
  by_cases h : m - (l.length : Int) < 0
  · rw [if_pos h]; exact .inl ⟨by omega, rfl⟩
  · rw [if_neg h]; exact .inr ⟨by omega, rfl⟩
theorem toRangeS_loop (l : List S75) (hl : l.length ≤ 1048576) (n : Nat) : ∀ (x : List S73) (i : Nat), l.length - i = n → i ≤ l.length → x.length = l.length → (∀ j, j < i → x[j]? = (l.map conv)[j]?) → Ev (fun k => laws_toRangeS.l0 k l x (i : Int)) (l.map conv) := by
  induction n with
  | zero =>
    intro x i hn hi hx h
    refine Ev.step (fun k => rfl) ?_
    simp only [laws_toRangeS.l0, show ¬ ((i : Int) < (l.length : Int)) by omega, if_false]
    exact Ev_now (prefix_all (by rw [List.length_map]; exact hx) (fun j hj => h j (by rw [List.length_map] at hj; omega)))
  | succ n ih =>
    intro x i hn hi hx h
    have hil : i < l.length := by omega
    have H := ih (x.set i (conv (rd_T75 l (i : Int)))) (i + 1) (by omega) (by omega) (by rw [List.length_set]; exact hx) (set_prefix (by rw [List.length_map]; exact hx) (by rw [List.getElem?_map, rdW_get l hil]; rfl) h)
    refine Ev.step (fun k => rfl) ?_
    simp only [laws_toRangeS.l0, laws_toRange.f, Option.bind_some, show ((i : Int) < (l.length : Int)) by omega, show (0 : Int) ≤ (i : Int) by omega, show ((i : Int) < (x.length : Int)) by omega, if_true, Int.toNat_natCast, next64 (show i < 4611686018427387904 by omega)]
    exact H
theorem toRangeS_ev (l : List S75) (hl : l.length ≤ 1048576) : Ev (fun k => laws_toRangeS.f k l) (l.map conv) := by
  simp only [laws_toRangeS.f, show (0 : Int) ≤ (l.length : Int) by omega, if_true, Int.toNat_natCast, show l.length ≤ 17592186044416 by omega]
  exact toRangeS_loop l hl l.length _ 0 (by omega) (by omega) (by simp) (fun j hj => by omega)
theorem eqRangeS_loop (l : List S73) (hl : l.length ≤ 281474976710656) (n : Nat) : ∀ (i : Nat), l.length - i = n → i ≤ l.length → Ev (fun k => laws_eqRangeS.l0 k l l (i : Int)) true := by
  induction n with
  | zero =>
    intro i hn hi
    refine Ev.step (fun k => rfl) ?_
    simp only [laws_eqRangeS.l0, show ¬ ((i : Int) < (l.length : Int)) by omega, if_false]
    exact Ev.now _
  | succ n ih =>
    intro i hn hi
    have H := ih (i + 1) (by omega) (by omega)
    refine Ev.step (fun k => rfl) ?_
    simp only [laws_eqRangeS.l0, laws_eqRange.f, Option.bind_some, show ((i : Int) < (l.length : Int)) by omega, show (0 : Int) ≤ (i : Int) by omega, if_true, next64 (show i < 4611686018427387904 by omega)]
    exact H
theorem eqRangeS_ev (l : List S73) (hl : l.length ≤ 281474976710656) : Ev (fun k => laws_eqRangeS.f k l l) true := by
  simp only [laws_eqRangeS.f, if_true]
  exact eqRangeS_loop l hl l.length 0 (by omega) (by omega)
/-- What a marking leaves in ranges, numbered from m on. -/
def marksR (m : Int) (n : Nat) : List S73 := (List.range n).map fun j : Nat => ⟨m + 2 * (j : Int), m + 2 * (j : Int) + 1⟩
theorem marksR_length (m : Int) (n : Nat) : (marksR m n).length = n := by simp [marksR]
theorem marksR_get (m : Int) {n i : Nat} (h : i < n) : (marksR m n)[i]? = some ⟨m + 2 * i, m + 2 * i + 1⟩ := by simp [marksR, h]
theorem markRangeS_loop (m : Int) (N : Nat) (hm : 0 ≤ m) (hN : m + 2 * N ≤ 4611686018427387903) (n : Nat) : ∀ (x : List S73) (i : Nat), N - i = n → i ≤ N → x.length = N → (∀ j, j < i → x[j]? = (marksR m N)[j]?) → Ev (fun k => laws_markRangeS.l0 k x (m + 2 * i) (i : Int)) (m + 2 * N, marksR m N) := by
  induction n with
  | zero =>
    intro x i hn hi hx h
    obtain rfl : i = N := by omega
    refine Ev.step (fun k => rfl) ?_
    simp only [laws_markRangeS.l0, show ¬ ((i : Int) < (x.length : Int)) by omega, if_false]
    exact Ev_now (by rw [prefix_all (l := marksR m i) (by rw [marksR_length, hx]) (fun j hj => h j (by rw [marksR_length] at hj; exact hj))])
  | succ n ih =>
    intro x i hn hi hx h
    have H := ih (x.set i ⟨m + 2 * i, m + 2 * i + 1⟩) (i + 1) (by omega) (by omega) (by rw [List.length_set]; exact hx) (set_prefix (by rw [marksR_length, hx]) (marksR_get m (by omega)) h)
    rw [show m + 2 * ((i + 1 : Nat) : Int) = m + 2 * i + 1 + 1 by omega] at H
    refine Ev.step (fun k => rfl) ?_
    simp only [laws_markRangeS.l0, Option.bind_some, show ((i : Int) < (x.length : Int)) by omega, show (0 : Int) ≤ (i : Int) by omega, if_true, Int.toNat_natCast, next64 (show i < 4611686018427387904 by omega), w64 (x := m + 2 * i + 1) (by omega) (by omega), w64 (x := m + 2 * i + 1 + 1) (by omega) (by omega), List.set_set]
    rw [rdR_some (List.getElem?_set_self (show i < x.length by omega))]
    exact H
theorem markRangeS_ev (x : List S73) (m : Int) (hm : 0 ≤ m) (hN : m + 2 * x.length ≤ 4611686018427387903) : Ev (fun k => laws_markRangeS.f k x m) (m + 2 * x.length, marksR m x.length) := by
  have H := markRangeS_loop m x.length hm hN x.length x 0 (by omega) (by omega) rfl (fun j hj => by omega)
  rw [show m + 2 * ((0 : Nat) : Int) = m by omega] at H
  simp only [laws_markRangeS.f]
  exact H
theorem heldRangeS_loop (m : Int) (N : Nat) (hm : 0 ≤ m) (hN : m + 2 * N ≤ 4611686018427387903) (n : Nat) : ∀ (i : Nat), N - i = n → i ≤ N → Ev (fun k => laws_heldRangeS.l0 k (marksR m N) (m + 2 * i) (i : Int)) (m + 2 * N) := by
  induction n with
  | zero =>
    intro i hn hi
    obtain rfl : i = N := by omega
    refine Ev.step (fun k => rfl) ?_
    simp only [laws_heldRangeS.l0, marksR_length, show ¬ ((i : Int) < (i : Int)) by omega, if_false]
    exact Ev.now _
  | succ n ih =>
    intro i hn hi
    have H := ih (i + 1) (by omega) (by omega)
    rw [show m + 2 * ((i + 1 : Nat) : Int) = m + 2 * i + 1 + 1 by omega] at H
    refine Ev.step (fun k => rfl) ?_
    simp only [laws_heldRangeS.l0, marksR_length, show ((i : Int) < (N : Int)) by omega, show (0 : Int) ≤ (i : Int) by omega, rdR_some (marksR_get m (show i < N by omega)), if_true, next64 (show i < 4611686018427387904 by omega), w64 (x := m + 2 * i + 1) (by omega) (by omega), w64 (x := m + 2 * i + 1 + 1) (by omega) (by omega)]
    exact H
theorem heldRangeS_ev (n : Nat) (m : Int) (hm : 0 ≤ m) (hN : m + 2 * n ≤ 4611686018427387903) : Ev (fun k => laws_heldRangeS.f k (marksR m n) m) (m + 2 * n) := by
  have H := heldRangeS_loop m n hm hN n 0 (by omega) (by omega)
  rw [show m + 2 * ((0 : Nat) : Int) = m by omega] at H
  simp only [laws_heldRangeS.f]
  exact H
/-- Range number j of a list is right, and lies behind the one ahead of it. -/
def Good (l : List S73) (j : Nat) : Prop :=
  0 ≤ (rd_T73 l (j : Int)).f0 ∧ (rd_T73 l (j : Int)).f0 ≤ (rd_T73 l (j : Int)).f1 ∧ (rd_T73 l (j : Int)).f1 ≤ 4611686018427387903 ∧ (0 < j → wrap64 ((rd_T73 l ((j : Int) - 1)).f1 + 1) < (rd_T73 l (j : Int)).f0)
theorem inVar_eq (a : Int) : impl_inVar.f a = some (decide (0 ≤ a ∧ a ≤ 4611686018427387903)) := by
  unfold impl_inVar.f
  by_cases h : a ≥ 0
  · rw [if_pos h]; exact congrArg some (by rw [decide_eq_decide]; omega)
  · rw [if_neg h]; exact congrArg some (decide_eq_false (by omega)).symm
theorem ok_loop (l : List S73) (hl : l.length ≤ 1048576) (n : Nat) : ∀ i : Nat, l.length - i = n → i ≤ l.length →
    ∃ b, Ev (fun k => spec_l05RangesOK.l0 k l (i : Int)) b ∧ Ev (fun k => impl_rangesOK.l0 k l l (l.length : Int) (i : Int)) b ∧ (b = true → ∀ j, i ≤ j → j < l.length → Good l j) := by
  induction n with
  | zero =>
    intro i hn hi
    refine ⟨true, ?_, ?_, fun _ j h1 h2 => by omega⟩
    · refine Ev.step (fun k => rfl) ?_
      simp only [spec_l05RangesOK.l0, show ¬ ((i : Int) < (l.length : Int)) by omega, if_false]
      exact Ev.now _
    · refine Ev.step (fun k => rfl) ?_
      simp only [impl_rangesOK.l0, show ¬ ((i : Int) < (l.length : Int)) by omega, if_false]
      exact Ev.now _
  | succ n ih =>
    intro i hn hi
    have bad : ∀ (h : ¬ Good l i), Ev (fun k => spec_l05RangesOK.l0 k l (i : Int)) false ∧ Ev (fun k => impl_rangesOK.l0 k l l (l.length : Int) (i : Int)) false → ∃ b, Ev (fun k => spec_l05RangesOK.l0 k l (i : Int)) b ∧ Ev (fun k => impl_rangesOK.l0 k l l (l.length : Int) (i : Int)) b ∧ (b = true → ∀ j, i ≤ j → j < l.length → Good l j) :=
      fun _ h => ⟨false, h.1, h.2, fun h => by cases h⟩
    obtain ⟨b, hs, hi', hb⟩ := ih (i + 1) (by omega) (by omega)
    by_cases c1 : 0 ≤ (rd_T73 l (i : Int)).f0 ∧ (rd_T73 l (i : Int)).f0 ≤ (rd_T73 l (i : Int)).f1 ∧ (rd_T73 l (i : Int)).f1 ≤ 4611686018427387903
    · by_cases c2 : 0 < i
      · by_cases c3 : (rd_T73 l (i : Int)).f0 ≤ wrap64 ((rd_T73 l ((i : Int) - 1)).f1 + 1)
        · refine bad (fun h => by have := h.2.2.2 c2; omega) ⟨?_, ?_⟩
          · refine Ev.step (fun k => rfl) ?_
            simp only [spec_l05RangesOK.l0, show ((i : Int) < (l.length : Int)) by omega, show (0 : Int) ≤ (i : Int) by omega, show ¬ ((rd_T73 l (i : Int)).f0 < 0) by omega, show ¬ ((rd_T73 l (i : Int)).f1 > 4611686018427387903) by omega, show ¬ ((rd_T73 l (i : Int)).f0 > (rd_T73 l (i : Int)).f1) by omega, show (i : Int) > 0 by omega, w64 (x := (i : Int) - 1) (by omega) (by omega), show (0 : Int) ≤ (i : Int) - 1 by omega, show (i : Int) - 1 < (l.length : Int) by omega, if_true, if_false, c3]
            exact Ev.now _
          · refine Ev.step (fun k => rfl) ?_
            simp only [impl_rangesOK.l0, inVar_eq, Option.bind_some, show ((i : Int) < (l.length : Int)) by omega, show (0 : Int) ≤ (i : Int) by omega, show (0 ≤ (rd_T73 l (i : Int)).f0 ∧ (rd_T73 l (i : Int)).f0 ≤ 4611686018427387903) by omega, show (0 ≤ (rd_T73 l (i : Int)).f1 ∧ (rd_T73 l (i : Int)).f1 ≤ 4611686018427387903) by omega, show ¬ ((rd_T73 l (i : Int)).f0 > (rd_T73 l (i : Int)).f1) by omega, and_self, decide_true, show (i : Int) > 0 by omega, w64 (x := (i : Int) - 1) (by omega) (by omega), show (0 : Int) ≤ (i : Int) - 1 by omega, show (i : Int) - 1 < (l.length : Int) by omega, if_true, if_false, c3]
            exact Ev.now _
        · refine ⟨b, ?_, ?_, fun h j h1 h2 => ?_⟩
          · refine Ev.step (fun k => rfl) ?_
            simp only [spec_l05RangesOK.l0, show ((i : Int) < (l.length : Int)) by omega, show (0 : Int) ≤ (i : Int) by omega, show ¬ ((rd_T73 l (i : Int)).f0 < 0) by omega, show ¬ ((rd_T73 l (i : Int)).f1 > 4611686018427387903) by omega, show ¬ ((rd_T73 l (i : Int)).f0 > (rd_T73 l (i : Int)).f1) by omega, show (i : Int) > 0 by omega, w64 (x := (i : Int) - 1) (by omega) (by omega), show (0 : Int) ≤ (i : Int) - 1 by omega, show (i : Int) - 1 < (l.length : Int) by omega, if_true, if_false, c3, next64 (show i < 4611686018427387904 by omega)]
            exact hs
          · refine Ev.step (fun k => rfl) ?_
            simp only [impl_rangesOK.l0, inVar_eq, Option.bind_some, show ((i : Int) < (l.length : Int)) by omega, show (0 : Int) ≤ (i : Int) by omega, show (0 ≤ (rd_T73 l (i : Int)).f0 ∧ (rd_T73 l (i : Int)).f0 ≤ 4611686018427387903) by omega, show (0 ≤ (rd_T73 l (i : Int)).f1 ∧ (rd_T73 l (i : Int)).f1 ≤ 4611686018427387903) by omega, show ¬ ((rd_T73 l (i : Int)).f0 > (rd_T73 l (i : Int)).f1) by omega, and_self, decide_true, show (i : Int) > 0 by omega, w64 (x := (i : Int) - 1) (by omega) (by omega), show (0 : Int) ≤ (i : Int) - 1 by omega, show (i : Int) - 1 < (l.length : Int) by omega, if_true, if_false, c3, next64 (show i < 4611686018427387904 by omega)]
            exact hi'
          · by_cases e : j = i
            · subst e; exact ⟨c1.1, c1.2.1, c1.2.2, fun _ => by omega⟩
            · exact hb h j (by omega) h2
      · refine ⟨b, ?_, ?_, fun h j h1 h2 => ?_⟩
        · refine Ev.step (fun k => rfl) ?_
          simp only [spec_l05RangesOK.l0, show ((i : Int) < (l.length : Int)) by omega, show (0 : Int) ≤ (i : Int) by omega, show ¬ ((rd_T73 l (i : Int)).f0 < 0) by omega, show ¬ ((rd_T73 l (i : Int)).f1 > 4611686018427387903) by omega, show ¬ ((rd_T73 l (i : Int)).f0 > (rd_T73 l (i : Int)).f1) by omega, show ¬ ((i : Int) > 0) by omega, if_true, if_false, next64 (show i < 4611686018427387904 by omega)]
          exact hs
        · refine Ev.step (fun k => rfl) ?_
          simp only [impl_rangesOK.l0, inVar_eq, Option.bind_some, show ((i : Int) < (l.length : Int)) by omega, show (0 : Int) ≤ (i : Int) by omega, show (0 ≤ (rd_T73 l (i : Int)).f0 ∧ (rd_T73 l (i : Int)).f0 ≤ 4611686018427387903) by omega, show (0 ≤ (rd_T73 l (i : Int)).f1 ∧ (rd_T73 l (i : Int)).f1 ≤ 4611686018427387903) by omega, show ¬ ((rd_T73 l (i : Int)).f0 > (rd_T73 l (i : Int)).f1) by omega, and_self, decide_true, show ¬ ((i : Int) > 0) by omega, if_true, if_false, next64 (show i < 4611686018427387904 by omega)]
          exact hi'
        · by_cases e : j = i
          · subst e; exact ⟨c1.1, c1.2.1, c1.2.2, fun h => by omega⟩
          · exact hb h j (by omega) h2
    · refine bad (fun h => c1 ⟨h.1, h.2.1, h.2.2.1⟩) ⟨?_, ?_⟩
      · refine Ev.step (fun k => rfl) ?_
        simp only [spec_l05RangesOK.l0, show ((i : Int) < (l.length : Int)) by omega, show (0 : Int) ≤ (i : Int) by omega, if_true]
        refine Ev_ite (fun _ => Ev.now _) (fun d1 => ?_)
        refine Ev_ite (fun _ => Ev.now _) (fun d2 => ?_)
        refine Ev_ite (fun _ => Ev.now _) (fun d3 => ?_)
        omega
      · refine Ev.step (fun k => rfl) ?_
        simp only [impl_rangesOK.l0, inVar_eq, Option.bind_some, show ((i : Int) < (l.length : Int)) by omega, show (0 : Int) ≤ (i : Int) by omega, if_true, decide_eq_true_eq]
        refine Ev_ite (fun _ => Ev.now _) (fun d1 => ?_)
        refine Ev_ite (fun d2 => ?_) (fun _ => Ev.now _)
        refine Ev_ite (fun d3 => ?_) (fun _ => Ev.now _)
        omega
/-- Both tell the same of a list; where they say yes, it is short and each range is right. -/
theorem ok_both (l : List S73) (hl : l.length ≤ 1048576) : ∃ b, Ev (fun k => spec_l05RangesOK.f k l) b ∧ Ev (fun k => impl_rangesOK.f k l) b ∧ (b = true → l.length ≤ 64 ∧ ∀ j, j < l.length → Good l j) := by
  simp only [spec_l05RangesOK.f, impl_rangesOK.f]
  by_cases h : (l.length : Int) > 64
  · simp only [h, if_true]; exact ⟨_, Ev.now _, Ev.now _, fun h => by cases h⟩
  · simp only [h, if_false]
    obtain ⟨b, hs, hi, hb⟩ := ok_loop l hl l.length 0 (by omega) (by omega)
    exact ⟨b, hs, hi, fun h => ⟨by omega, fun j hj => hb h j (by omega) hj⟩⟩
theorem eqByteS_loop (l : List Int) (hl : l.length ≤ 281474976710656) (n : Nat) : ∀ (i : Nat), l.length - i = n → i ≤ l.length → Ev (fun k => laws_eqByteS.l0 k l l (i : Int)) true := by
  induction n with
  | zero =>
    intro i hn hi
    refine Ev.step (fun k => rfl) ?_
    simp only [laws_eqByteS.l0, show ¬ ((i : Int) < (l.length : Int)) by omega, if_false]
    exact Ev.now _
  | succ n ih =>
    intro i hn hi
    have H := ih (i + 1) (by omega) (by omega)
    refine Ev.step (fun k => rfl) ?_
    simp only [laws_eqByteS.l0, show ((i : Int) < (l.length : Int)) by omega, show (0 : Int) ≤ (i : Int) by omega, if_true, next64 (show i < 4611686018427387904 by omega)]
    exact H
theorem eqByteS_ev (l : List Int) (hl : l.length ≤ 281474976710656) : Ev (fun k => laws_eqByteS.f k l l) true := by
  simp only [laws_eqByteS.f, if_true]
  exact eqByteS_loop l hl l.length 0 (by omega) (by omega)
theorem markByteS_loop (m : Int) (N : Nat) (hm : 0 ≤ m) (hN : m + N ≤ 4611686018427387903) (n : Nat) : ∀ (x : List Int) (i : Nat), N - i = n → i ≤ N → x.length = N → (∀ j, j < i → x[j]? = (marks m N)[j]?) → Ev (fun k => laws_markByteS.l0 k x (m + i) (i : Int)) (m + N, marks m N) := by
  induction n with
  | zero =>
    intro x i hn hi hx h
    obtain rfl : i = N := by omega
    refine Ev.step (fun k => rfl) ?_
    simp only [laws_markByteS.l0, show ¬ ((i : Int) < (x.length : Int)) by omega, if_false]
    exact Ev_now (by rw [prefix_all (l := marks m i) (by rw [marks_length, hx]) (fun j hj => h j (by rw [marks_length] at hj; exact hj))])
  | succ n ih =>
    intro x i hn hi hx h
    have H := ih (x.set i ((m + i) % 256)) (i + 1) (by omega) (by omega) (by rw [List.length_set]; exact hx) (set_prefix (by rw [marks_length, hx]) (marks_get m (by omega)) h)
    rw [show m + ((i + 1 : Nat) : Int) = m + i + 1 by omega] at H
    refine Ev.step (fun k => rfl) ?_
    simp only [laws_markByteS.l0, show ((i : Int) < (x.length : Int)) by omega, show (0 : Int) ≤ (i : Int) by omega, if_true, Int.toNat_natCast, next64 (show i < 4611686018427387904 by omega), w64 (x := m + i + 1) (by omega) (by omega)]
    exact H
theorem markByteS_ev (x : List Int) (m : Int) (hm : 0 ≤ m) (hN : m + x.length ≤ 4611686018427387903) : Ev (fun k => laws_markByteS.f k x m) (m + x.length, marks m x.length) := by
  have H := markByteS_loop m x.length hm hN x.length x 0 (by omega) (by omega) rfl (fun j hj => by omega)
  rw [show m + ((0 : Nat) : Int) = m by omega] at H
  simp only [laws_markByteS.f]
  exact H
theorem heldByteS_loop (m : Int) (N : Nat) (hm : 0 ≤ m) (hN : m + N ≤ 4611686018427387903) (n : Nat) : ∀ (i : Nat), N - i = n → i ≤ N → Ev (fun k => laws_heldByteS.l0 k (marks m N) (m + i) (i : Int)) (m + N) := by
  induction n with
  | zero =>
    intro i hn hi
    obtain rfl : i = N := by omega
    refine Ev.step (fun k => rfl) ?_
    simp only [laws_heldByteS.l0, marks_length, show ¬ ((i : Int) < (i : Int)) by omega, if_false]
    exact Ev.now _
  | succ n ih =>
    intro i hn hi
    have H := ih (i + 1) (by omega) (by omega)
    rw [show m + ((i + 1 : Nat) : Int) = m + i + 1 by omega] at H
    refine Ev.step (fun k => rfl) ?_
    simp only [laws_heldByteS.l0, marks_length, show ((i : Int) < (N : Int)) by omega, show (0 : Int) ≤ (i : Int) by omega, rd_some (marks_get m (show i < N by omega)), if_true, next64 (show i < 4611686018427387904 by omega), w64 (x := m + i + 1) (by omega) (by omega)]
    exact H
theorem heldByteS_ev (n : Nat) (m : Int) (hm : 0 ≤ m) (hN : m + n ≤ 4611686018427387903) : Ev (fun k => laws_heldByteS.f k (marks m n) m) (m + n) := by
  have H := heldByteS_loop m n hm hN n 0 (by omega) (by omega)
  rw [show m + ((0 : Nat) : Int) = m by omega] at H
  simp only [laws_heldByteS.f]
  exact H
theorem eqFrame_ev (a b c d : Int) (f : Bool) (x y : List Int) (z : List S73) (hx : x.length ≤ 281474976710656) (hy : y.length ≤ 281474976710656) (hz : z.length ≤ 281474976710656) : Ev (fun k => laws_eqFrame.f k a b c d f x y z a b c d f x y z) true := by
  simp only [laws_eqFrame.f, if_true, bne_self_eq_false, Bool.false_eq_true, if_false]
  refine Ev.bind (eqByteS_ev x hx) ?_
  simp only [if_true]
  refine Ev.bind (eqByteS_ev y hy) ?_
  simp only [if_true]
  refine Ev.bind (eqRangeS_ev z hz) ?_
  simp only [if_true]
  exact Ev.now _
theorem markFrame_ev (a b c d : Int) (f : Bool) (x y : List Int) (z : List S73) (m : Int) (hm : 0 ≤ m ∧ m ≤ 281474976710656) (hx : x.length ≤ 281474976710656) (hy : y.length ≤ 281474976710656) (hz : z.length ≤ 281474976710656) :
    Ev (fun k => laws_markFrame.f k a b c d f x y z m) (m + x.length + y.length + 2 * z.length, marks m x.length, marks (m + x.length) y.length, marksR (m + x.length + y.length) z.length) := by
  simp only [laws_markFrame.f]
  refine Ev.bind (markByteS_ev x m (by omega) (by omega)) ?_
  refine Ev.bind (markByteS_ev y _ (by omega) (by omega)) ?_
  exact Ev.bind (markRangeS_ev z _ (by omega) (by omega)) (Ev.now _)
theorem heldFrame_ev (a b c d : Int) (f : Bool) (x y z : Nat) (m : Int) (hm : 0 ≤ m ∧ m ≤ 281474976710656) (hx : x ≤ 281474976710656) (hy : y ≤ 281474976710656) (hz : z ≤ 281474976710656) :
    Ev (fun k => laws_heldFrame.f k a b c d f (marks m x) (marks (m + x) y) (marksR (m + x + y) z) m) (m + x + y + 2 * z) := by
  simp only [laws_heldFrame.f]
  refine Ev.bind (heldByteS_ev x m (by omega) (by omega)) ?_
  simp only [show ¬ (m + (x : Int) < 0) by omega, if_false]
  refine Ev.bind (heldByteS_ev y _ (by omega) (by omega)) ?_
  simp only [show ¬ (m + (x : Int) + (y : Int) < 0) by omega, if_false]
  refine Ev.bind (heldRangeS_ev z _ (by omega) (by omega)) ?_
  simp only [show ¬ (m + (x : Int) + (y : Int) + 2 * (z : Int) < 0) by omega, if_false]
  exact Ev.now _
theorem l05Var_eq (a : Int) : spec_l05Var.f a = some (decide (0 ≤ a ∧ a ≤ 4611686018427387903)) := by
  unfold spec_l05Var.f
  by_cases h : a ≥ 0
  · rw [if_pos h]; exact congrArg some (by rw [decide_eq_decide]; omega)
  · rw [if_neg h]; exact congrArg some (decide_eq_false (by omega)).symm
/-- Both answer, and the same. -/
theorem both (l : List S73) (n : Int) (hl : l.length ≤ 1048576) : ∃ a b c d f x y z e, Ev (fun k => spec_AckFrame.f k l n) (a, b, c, d, f, x, y, z, e) ∧ Ev (fun k => impl_AckFrame.f k l n) (a, b, c, d, f, x, y, z, e) ∧ x.length ≤ 1048576 ∧ y.length ≤ 1048576 ∧ z.length ≤ 1048576 := by
  obtain ⟨o, hs, hi, ho⟩ := ok_both l hl
  simp only [spec_AckFrame.f, impl_AckFrame.f, l05Var_eq, inVar_eq, Option.bind_some]
  cases o with
  | false => exact ⟨0, 0, 0, 0, false, [], [], [], 1, Ev.bind hs (by simp only [Bool.false_eq_true, if_false]; exact Ev.now _), Ev.bind hi (by simp only [Bool.false_eq_true, if_false]; exact Ev.now _), by simp, by simp, by simp⟩
  | true =>
    by_cases c1 : (l.length : Int) = 0
    · exact ⟨0, 0, 0, 0, false, [], [], [], 1, Ev.bind hs (by simp only [if_true, c1]; exact Ev.now _), Ev.bind hi (by simp only [if_true, c1]; exact Ev.now _), by simp, by simp, by simp⟩
    · by_cases c2 : 0 ≤ n ∧ n ≤ 4611686018427387903
      · refine ⟨2, n, 0, 0, false, [], [], l, 0, Ev.bind hs ?_, Ev.bind hi ?_, by simp, by simp, hl⟩
        · simp only [if_true, if_false, c1, decide_eq_true c2, List.length_nil, Nat.zero_add, show l.length < 8796093022208 by omega, List.nil_append]
          exact Ev.now _
        · simp only [if_true, if_false, c1, decide_eq_true c2, List.length_nil, Nat.zero_add, show l.length < 8796093022208 by omega, List.nil_append]
          exact Ev.now _
      · exact ⟨0, 0, 0, 0, false, [], [], [], 1, Ev.bind hs (by simp only [if_true, if_false, c1, decide_eq_false c2, Bool.false_eq_true]; exact Ev.now _), Ev.bind hi (by simp only [if_true, if_false, c1, decide_eq_false c2, Bool.false_eq_true]; exact Ev.now _), by simp, by simp, by simp⟩

theorem FnExactAckFrame (l0 : List S75) (n : Int) (q0 : l0.length ≤ maxLen ∧ ∀ x ∈ l0, (Lit.int .i64 x.f0).wf = true ∧ (Lit.int .i64 x.f1).wf = true) (h1 : (Lit.int .i64 n).wf = true) : ∃ k, laws_FnExactAckFrame.f k l0 n = some true := by
  refine Ev.rounds (g := fun k => laws_FnExactAckFrame.f k l0 n) ?_
  simp only [laws_FnExactAckFrame.f]
  rcases szRangeS_at l0 1048576 q0.1 (by omega) with ⟨_, e⟩ | ⟨hl, e⟩
  · simp only [e, Option.bind_some, show (-1 : Int) < 0 by decide, if_true]; exact Ev.now _
  · simp only [e, Option.bind_some, show ¬ ((1048576 : Int) - (l0.length : Int) < 0) by omega, if_false]
    obtain ⟨a, b, c, d, f, x, y, z, e, hs, hi, hx, hy, hz⟩ := both (l0.map conv) n (by rw [List.length_map]; omega)
    have hh := heldFrame_ev a b c d f x.length y.length z.length 1 (by omega) (by omega) (by omega) (by omega)
    repeat' first
      | exact Ev.now _
      | refine Ev.bind hs ?_
      | refine Ev.bind hi ?_
      | refine Ev.bind hh ?_
      | refine Ev.bind (toRangeS_ev _ (by omega)) ?_
      | refine Ev.bind (eqFrame_ev _ _ _ _ _ _ _ _ (by omega) (by omega) (by omega)) ?_
      | refine Ev.bind (eqRangeS_ev _ (by first | omega | (rw [List.length_map]; omega))) ?_
      | refine Ev.bind (markFrame_ev _ _ _ _ _ _ _ _ _ (by omega) (by omega) (by omega) (by omega)) ?_
      | refine Ev.bind (markRangeS_ev _ _ (by omega) (by first | omega | (rw [List.length_map]; omega))) ?_
      | simp only [if_true, if_false, bne_self_eq_false, Bool.false_eq_true, marksR_length, marks_length]
      | (refine Ev.step (fun k => rfl) ?_; simp only [laws_FnExactAckFrame.j0, laws_FnExactAckFrame.j1, laws_FnExactAckFrame.j2])
      | refine Ev_ite (fun c => absurd c (by omega)) (fun _ => ?_)

end Go.Proofs.Ytkfoneckbnggoaa.Pure
