/- For all lists of ranges and whole numbers of Go's int: the program's RangesAdd and the reference's tell the same ranges and code, in memory of its own. No condition. -/
import Derived.Test.YtkfoneckbnggoaaMFnExactRangesAddx7
import Derived.Test.YtkfoneckbnggoaaMath
namespace Go.Proofs.Ytkfoneckbnggoaa.Pure
open Go.RowKit Go.Proofs.Ytkfoneckbnggoaa.MFnExactRangesAdd Go.Proofs.YtkfoneckbnggoaaW.PrintWords Go.Proofs.YtkfoneckbnggoaaW.PrintLast Go.Proofs.YtkfoneckbnggoaaW.PrintMore Go.Proofs.Ytkfoneckbnggoaa.Math
set_option linter.unusedVariables false
set_option linter.unusedSimpArgs false

theorem rdR_some {l : List S73} {i : Nat} {v : S73} (h : l[i]? = some v) : rd_T73 l (i : Int) = v := by
  unfold rd_T73; rw [Int.toNat_natCast, List.getD_eq_getElem?_getD, h]; rfl
theorem rdR_get (l : List S73) {i : Nat} (h : i < l.length) : l[i]? = some (rd_T73 l (i : Int)) := by
  have e := List.getElem?_eq_getElem h
  rw [rdR_some e]; exact e
theorem rdW_some {l : List S75} {i : Nat} {v : S75} (h : l[i]? = some v) : rd_T75 l (i : Int) = v := by
  unfold rd_T75; rw [Int.toNat_natCast, List.getD_eq_getElem?_getD, h]; rfl
theorem rdW_get (l : List S75) {i : Nat} (h : i < l.length) : l[i]? = some (rd_T75 l (i : Int)) := by
  have e := List.getElem?_eq_getElem h
  rw [rdW_some e]; exact e
/-- A range of the laws' package, in the program's. -/
def conv (x : S75) : S73 := ⟨x.f0, x.f1⟩
theorem szRangeS_at (l : List S75) (m : Int) (hl : l.length ≤ maxLen) (hm : 0 ≤ m ∧ m ≤ 1048576) : (m < l.length ∧ laws_szRangeS.f l m = some (-1)) ∨ (l.length ≤ m ∧ laws_szRangeS.f l m = some (m - l.length)) := by
  unfold maxLen at hl
  unfold laws_szRangeS.f
  rw [w64 (by omega) (by omega)]
  by_cases h : m - (l.length : Int) < 0
  · rw [if_pos h]; exact .inl ⟨by omega, rfl⟩
  · rw [if_neg h]; exact .inr ⟨by omega, rfl⟩
theorem toRangeS_loop (l : List S75) (hl : l.length ≤ 1048576) (n : Nat) : ∀ (x : List S73) (i : Nat), l.length - i = n → i ≤ l.length → x.length = l.length → (∀ j, j < i → x[j]? = (l.map conv)[j]?) → Ev (fun k => laws_toRangeS.l0 k l x (i : Int)) (l.map conv) := by
  induction n with
  | zero =>
    intro x i hn hi hx h
    refine Ev.step (fun k => rfl) ?_
    simp only [laws_toRangeS.l0, show ¬ ((i : Int) < (l.length : Int)) by omega, if_false]
    exact Ev_now (prefix_all (by rw [List.length_map]; exact hx) (fun j hj => h j (by rw [List.length_map] at hj; omega)))
  | succ n ih =>
    intro x i hn hi hx h
    have hil : i < l.length := by omega
    have H := ih (x.set i (conv (rd_T75 l (i : Int)))) (i + 1) (by omega) (by omega) (by rw [List.length_set]; exact hx) (set_prefix (by rw [List.length_map]; exact hx) (by rw [List.getElem?_map, rdW_get l hil]; rfl) h)
    refine Ev.step (fun k => rfl) ?_
    simp only [laws_toRangeS.l0, laws_toRange.f, Option.bind_some, show ((i : Int) < (l.length : Int)) by omega, show (0 : Int) ≤ (i : Int) by omega, show ((i : Int) < (x.length : Int)) by omega, if_true, Int.toNat_natCast, next64 (show i < 4611686018427387904 by omega)]
    exact H
theorem toRangeS_ev (l : List S75) (hl : l.length ≤ 1048576) : Ev (fun k => laws_toRangeS.f k l) (l.map conv) := by
  simp only [laws_toRangeS.f, show (0 : Int) ≤ (l.length : Int) by omega, if_true, Int.toNat_natCast, show l.length ≤ 17592186044416 by omega]
  exact toRangeS_loop l hl l.length _ 0 (by omega) (by omega) (by simp) (fun j hj => by omega)
theorem eqRangeS_loop (l : List S73) (hl : l.length ≤ 281474976710656) (n : Nat) : ∀ (i : Nat), l.length - i = n → i ≤ l.length → Ev (fun k => laws_eqRangeS.l0 k l l (i : Int)) true := by
  induction n with
  | zero =>
    intro i hn hi
    refine Ev.step (fun k => rfl) ?_
    simp only [laws_eqRangeS.l0, show ¬ ((i : Int) < (l.length : Int)) by omega, if_false]
    exact Ev.now _
  | succ n ih =>
    intro i hn hi
    have H := ih (i + 1) (by omega) (by omega)
    refine Ev.step (fun k => rfl) ?_
    simp only [laws_eqRangeS.l0, laws_eqRange.f, Option.bind_some, show ((i : Int) < (l.length : Int)) by omega, show (0 : Int) ≤ (i : Int) by omega, if_true, next64 (show i < 4611686018427387904 by omega)]
    exact H
theorem eqRangeS_ev (l : List S73) (hl : l.length ≤ 281474976710656) : Ev (fun k => laws_eqRangeS.f k l l) true := by
  simp only [laws_eqRangeS.f, if_true]
  exact eqRangeS_loop l hl l.length 0 (by omega) (by omega)
/-- What a marking leaves in ranges, numbered from m on. -/
def marksR (m : Int) (n : Nat) : List S73 := (List.range n).map fun j : Nat => ⟨m + 2 * (j : Int), m + 2 * (j : Int) + 1⟩
theorem marksR_length (m : Int) (n : Nat) : (marksR m n).length = n := by simp [marksR]
theorem marksR_get (m : Int) {n i : Nat} (h : i < n) : (marksR m n)[i]? = some ⟨m + 2 * i, m + 2 * i + 1⟩ := by simp [marksR, h]
theorem markRangeS_loop (m : Int) (N : Nat) (hm : 0 ≤ m) (hN : m + 2 * N ≤ 4611686018427387903) (n : Nat) : ∀ (x : List S73) (i : Nat), N - i = n → i ≤ N → x.length = N → (∀ j, j < i → x[j]? = (marksR m N)[j]?) → Ev (fun k => laws_markRangeS.l0 k x (m + 2 * i) (i : Int)) (m + 2 * N, marksR m N) := by
  induction n with
  | zero =>
    intro x i hn hi hx h
    obtain rfl : i = N := by omega
    refine Ev.step (fun k => rfl) ?_
    simp only [laws_markRangeS.l0, show ¬ ((i : Int) < (x.length : Int)) by omega, if_false]
    exact Ev_now (by rw [prefix_all (l := marksR m i) (by rw [marksR_length, hx]) (fun j hj => h j (by rw [marksR_length] at hj; exact hj))])
  | succ n ih =>
    intro x i hn hi hx h
    have H := ih (x.set i ⟨m + 2 * i, m + 2 * i + 1⟩) (i + 1) (by omega) (by omega) (by rw [List.length_set]; exact hx) (set_prefix (by rw [marksR_length, hx]) (marksR_get m (by omega)) h)
    rw [show m + 2 * ((i + 1 : Nat) : Int) = m + 2 * i + 1 + 1 by omega] at H
    refine Ev.step (fun k => rfl) ?_
    simp only [laws_markRangeS.l0, Option.bind_some, show ((i : Int) < (x.length : Int)) by omega, show (0 : Int) ≤ (i : Int) by omega, if_true, Int.toNat_natCast, next64 (show i < 4611686018427387904 by omega), w64 (x := m + 2 * i + 1) (by omega) (by omega), w64 (x := m + 2 * i + 1 + 1) (by omega) (by omega), List.set_set]
    rw [rdR_some (List.getElem?_set_self (show i < x.length by omega))]
    exact H
theorem markRangeS_ev (x : List S73) (m : Int) (hm : 0 ≤ m) (hN : m + 2 * x.length ≤ 4611686018427387903) : Ev (fun k => laws_markRangeS.f k x m) (m + 2 * x.length, marksR m x.length) := by
  have H := markRangeS_loop m x.length hm hN x.length x 0 (by omega) (by omega) rfl (fun j hj => by omega)
  rw [show m + 2 * ((0 : Nat) : Int) = m by omega] at H
  simp only [laws_markRangeS.f]
  exact H
theorem heldRangeS_loop (m : Int) (N : Nat) (hm : 0 ≤ m) (hN : m + 2 * N ≤ 4611686018427387903) (n : Nat) : ∀ (i : Nat), N - i = n → i ≤ N → Ev (fun k => laws_heldRangeS.l0 k (marksR m N) (m + 2 * i) (i : Int)) (m + 2 * N) := by
  induction n with
  | zero =>
    intro i hn hi
    obtain rfl : i = N := by omega
    refine Ev.step (fun k => rfl) ?_
    simp only [laws_heldRangeS.l0, marksR_length, show ¬ ((i : Int) < (i : Int)) by omega, if_false]
    exact Ev.now _
  | succ n ih =>
    intro i hn hi
    have H := ih (i + 1) (by omega) (by omega)
    rw [show m + 2 * ((i + 1 : Nat) : Int) = m + 2 * i + 1 + 1 by omega] at H
    refine Ev.step (fun k => rfl) ?_
    simp only [laws_heldRangeS.l0, marksR_length, show ((i : Int) < (N : Int)) by omega, show (0 : Int) ≤ (i : Int) by omega, rdR_some (marksR_get m (show i < N by omega)), if_true, next64 (show i < 4611686018427387904 by omega), w64 (x := m + 2 * i + 1) (by omega) (by omega), w64 (x := m + 2 * i + 1 + 1) (by omega) (by omega)]
    exact H
theorem heldRangeS_ev (n : Nat) (m : Int) (hm : 0 ≤ m) (hN : m + 2 * n ≤ 4611686018427387903) : Ev (fun k => laws_heldRangeS.f k (marksR m n) m) (m + 2 * n) := by
  have H := heldRangeS_loop m n hm hN n 0 (by omega) (by omega)
  rw [show m + 2 * ((0 : Nat) : Int) = m by omega] at H
  simp only [laws_heldRangeS.f]
  exact H
/-- Range number j of a list is right, and lies behind the one ahead of it. -/
def Good (l : List S73) (j : Nat) : Prop :=
  0 ≤ (rd_T73 l (j : Int)).f0 ∧ (rd_T73 l (j : Int)).f0 ≤ (rd_T73 l (j : Int)).f1 ∧ (rd_T73 l (j : Int)).f1 ≤ 4611686018427387903 ∧ (0 < j → wrap64 ((rd_T73 l ((j : Int) - 1)).f1 + 1) < (rd_T73 l (j : Int)).f0)
theorem inVar_eq (a : Int) : impl_inVar.f a = some (decide (0 ≤ a ∧ a ≤ 4611686018427387903)) := by
  unfold impl_inVar.f
  by_cases h : a ≥ 0
  · rw [if_pos h]; exact congrArg some (by rw [decide_eq_decide]; omega)
  · rw [if_neg h]; exact congrArg some (decide_eq_false (by omega)).symm
theorem ok_loop (l : List S73) (hl : l.length ≤ 1048576) (n : Nat) : ∀ i : Nat, l.length - i = n → i ≤ l.length →
    ∃ b, Ev (fun k => spec_l05RangesOK.l0 k l (i : Int)) b ∧ Ev (fun k => impl_rangesOK.l0 k l l (l.length : Int) (i : Int)) b ∧ (b = true → ∀ j, i ≤ j → j < l.length → Good l j) := by
  induction n with
  | zero =>
    intro i hn hi
    refine ⟨true, ?_, ?_, fun _ j h1 h2 => by omega⟩
    · refine Ev.step (fun k => rfl) ?_
      simp only [spec_l05RangesOK.l0, show ¬ ((i : Int) < (l.length : Int)) by omega, if_false]
      exact Ev.now _
    · refine Ev.step (fun k => rfl) ?_
      simp only [impl_rangesOK.l0, show ¬ ((i : Int) < (l.length : Int)) by omega, if_false]
      exact Ev.now _
  | succ n ih =>
    intro i hn hi
    have bad : ∀ (h : ¬ Good l i), Ev (fun k => spec_l05RangesOK.l0 k l (i : Int)) false ∧ Ev (fun k => impl_rangesOK.l0 k l l (l.length : Int) (i : Int)) false → ∃ b, Ev (fun k => spec_l05RangesOK.l0 k l (i : Int)) b ∧ Ev (fun k => impl_rangesOK.l0 k l l (l.length : Int) (i : Int)) b ∧ (b = true → ∀ j, i ≤ j → j < l.length → Good l j) :=
      fun _ h => ⟨false, h.1, h.2, fun h => by cases h⟩
    obtain ⟨b, hs, hi', hb⟩ := ih (i + 1) (by omega) (by omega)
    by_cases c1 : 0 ≤ (rd_T73 l (i : Int)).f0 ∧ (rd_T73 l (i : Int)).f0 ≤ (rd_T73 l (i : Int)).f1 ∧ (rd_T73 l (i : Int)).f1 ≤ 4611686018427387903
    · by_cases c2 : 0 < i
      · by_cases c3 : (rd_T73 l (i : Int)).f0 ≤ wrap64 ((rd_T73 l ((i : Int) - 1)).f1 + 1)
        · refine bad (fun h => by have := h.2.2.2 c2; omega) ⟨?_, ?_⟩
          · refine Ev.step (fun k => rfl) ?_
            simp only [spec_l05RangesOK.l0, show ((i : Int) < (l.length : Int)) by omega, show (0 : Int) ≤ (i : Int) by omega, show ¬ ((rd_T73 l (i : Int)).f0 < 0) by omega, show ¬ ((rd_T73 l (i : Int)).f1 > 4611686018427387903) by omega, show ¬ ((rd_T73 l (i : Int)).f0 > (rd_T73 l (i : Int)).f1) by omega, show (i : Int) > 0 by omega, w64 (x := (i : Int) - 1) (by omega) (by omega), show (0 : Int) ≤ (i : Int) - 1 by omega, show (i : Int) - 1 < (l.length : Int) by omega, if_true, if_false, c3]
            exact Ev.now _
          · refine Ev.step (fun k => rfl) ?_
            simp only [impl_rangesOK.l0, inVar_eq, Option.bind_some, show ((i : Int) < (l.length : Int)) by omega, show (0 : Int) ≤ (i : Int) by omega, show (0 ≤ (rd_T73 l (i : Int)).f0 ∧ (rd_T73 l (i : Int)).f0 ≤ 4611686018427387903) by omega, show (0 ≤ (rd_T73 l (i : Int)).f1 ∧ (rd_T73 l (i : Int)).f1 ≤ 4611686018427387903) by omega, show ¬ ((rd_T73 l (i : Int)).f0 > (rd_T73 l (i : Int)).f1) by omega, and_self, decide_true, show (i : Int) > 0 by omega, w64 (x := (i : Int) - 1) (by omega) (by omega), show (0 : Int) ≤ (i : Int) - 1 by omega, show (i : Int) - 1 < (l.length : Int) by omega, if_true, if_false, c3]
            exact Ev.now _
        · refine ⟨b, ?_, ?_, fun h j h1 h2 => ?_⟩
          · refine Ev.step (fun k => rfl) ?_
            simp only [spec_l05RangesOK.l0, show ((i : Int) < (l.length : Int)) by omega, show (0 : Int) ≤ (i : Int) by omega, show ¬ ((rd_T73 l (i : Int)).f0 < 0) by omega, show ¬ ((rd_T73 l (i : Int)).f1 > 4611686018427387903) by omega, show ¬ ((rd_T73 l (i : Int)).f0 > (rd_T73 l (i : Int)).f1) by omega, show (i : Int) > 0 by omega, w64 (x := (i : Int) - 1) (by omega) (by omega), show (0 : Int) ≤ (i : Int) - 1 by omega, show (i : Int) - 1 < (l.length : Int) by omega, if_true, if_false, c3, next64 (show i < 4611686018427387904 by omega)]
            exact hs
          · refine Ev.step (fun k => rfl) ?_
            simp only [impl_rangesOK.l0, inVar_eq, Option.bind_some, show ((i : Int) < (l.length : Int)) by omega, show (0 : Int) ≤ (i : Int) by omega, show (0 ≤ (rd_T73 l (i : Int)).f0 ∧ (rd_T73 l (i : Int)).f0 ≤ 4611686018427387903) by omega, show (0 ≤ (rd_T73 l (i : Int)).f1 ∧ (rd_T73 l (i : Int)).f1 ≤ 4611686018427387903) by omega, show ¬ ((rd_T73 l (i : Int)).f0 > (rd_T73 l (i : Int)).f1) by omega, and_self, decide_true, show (i : Int) > 0 by omega, w64 (x := (i : Int) - 1) (by omega) (by omega), show (0 : Int) ≤ (i : Int) - 1 by omega, show (i : Int) - 1 < (l.length : Int) by omega, if_true, if_false, c3, next64 (show i < 4611686018427387904 by omega)]
            exact hi'
          · by_cases e : j = i
            · subst e; exact ⟨c1.1, c1.2.1, c1.2.2, fun _ => by omega⟩
            · exact hb h j (by omega) h2
      · refine ⟨b, ?_, ?_, fun h j h1 h2 => ?_⟩
        · refine Ev.step (fun k => rfl) ?_
          simp only [spec_l05RangesOK.l0, show ((i : Int) < (l.length : Int)) by omega, show (0 : Int) ≤ (i : Int) by omega, show ¬ ((rd_T73 l (i : Int)).f0 < 0) by omega, show ¬ ((rd_T73 l (i : Int)).f1 > 4611686018427387903) by omega, show ¬ ((rd_T73 l (i : Int)).f0 > (rd_T73 l (i : Int)).f1) by omega, show ¬ ((i : Int) > 0) by omega, if_true, if_false, next64 (show i < 4611686018427387904 by omega)]
          exact hs
        · refine Ev.step (fun k => rfl) ?_
          simp only [impl_rangesOK.l0, inVar_eq, Option.bind_some, show ((i : Int) < (l.length : Int)) by omega, show (0 : Int) ≤ (i : Int) by omega, show (0 ≤ (rd_T73 l (i : Int)).f0 ∧ (rd_T73 l (i : Int)).f0 ≤ 4611686018427387903) by omega, show (0 ≤ (rd_T73 l (i : Int)).f1 ∧ (rd_T73 l (i : Int)).f1 ≤ 4611686018427387903) by omega, show ¬ ((rd_T73 l (i : Int)).f0 > (rd_T73 l (i : Int)).f1) by omega, and_self, decide_true, show ¬ ((i : Int) > 0) by omega, if_true, if_false, next64 (show i < 4611686018427387904 by omega)]
          exact hi'
        · by_cases e : j = i
          · subst e; exact ⟨c1.1, c1.2.1, c1.2.2, fun h => by omega⟩
          · exact hb h j (by omega) h2
    · refine bad (fun h => c1 ⟨h.1, h.2.1, h.2.2.1⟩) ⟨?_, ?_⟩
      · refine Ev.step (fun k => rfl) ?_
        simp only [spec_l05RangesOK.l0, show ((i : Int) < (l.length : Int)) by omega, show (0 : Int) ≤ (i : Int) by omega, if_true]
        refine Ev_ite (fun _ => Ev.now _) (fun d1 => ?_)
        refine Ev_ite (fun _ => Ev.now _) (fun d2 => ?_)
        refine Ev_ite (fun _ => Ev.now _) (fun d3 => ?_)
        omega
      · refine Ev.step (fun k => rfl) ?_
        simp only [impl_rangesOK.l0, inVar_eq, Option.bind_some, show ((i : Int) < (l.length : Int)) by omega, show (0 : Int) ≤ (i : Int) by omega, if_true, decide_eq_true_eq]
        refine Ev_ite (fun _ => Ev.now _) (fun d1 => ?_)
        refine Ev_ite (fun d2 => ?_) (fun _ => Ev.now _)
        refine Ev_ite (fun d3 => ?_) (fun _ => Ev.now _)
        omega
/-- Both tell the same of a list; where they say yes, it is short and each range is right. -/
theorem ok_both (l : List S73) (hl : l.length ≤ 1048576) : ∃ b, Ev (fun k => spec_l05RangesOK.f k l) b ∧ Ev (fun k => impl_rangesOK.f k l) b ∧ (b = true → l.length ≤ 64 ∧ ∀ j, j < l.length → Good l j) := by
  simp only [spec_l05RangesOK.f, impl_rangesOK.f]
  by_cases h : (l.length : Int) > 64
  · simp only [h, if_true]; exact ⟨_, Ev.now _, Ev.now _, fun h => by cases h⟩
  · simp only [h, if_false]
    obtain ⟨b, hs, hi, hb⟩ := ok_loop l hl l.length 0 (by omega) (by omega)
    exact ⟨b, hs, hi, fun h => ⟨by omega, fun j hj => hb h j (by omega) hj⟩⟩
/-! The two ways of putting a number to a list, as plain functions -/
theorem l05Var_eq (a : Int) : spec_l05Var.f a = some (decide (0 ≤ a ∧ a ≤ 4611686018427387903)) := by
  unfold spec_l05Var.f
  by_cases h : a ≥ 0
  · rw [if_pos h]; exact congrArg some (by rw [decide_eq_decide]; omega)
  · rw [if_neg h]; exact congrArg some (decide_eq_false (by omega)).symm
/-- A valid list: each range is right, and lies apart from all that follow. -/
def Vd : List S73 → Prop
  | [] => True
  | r :: rs => 0 ≤ r.f0 ∧ r.f0 ≤ r.f1 ∧ r.f1 ≤ 4611686018427387903 ∧ (∀ x ∈ rs, r.f1 + 1 < x.f0) ∧ Vd rs
theorem Vd_all {l : List S73} (h : Vd l) : ∀ x ∈ l, 0 ≤ x.f0 ∧ x.f0 ≤ x.f1 ∧ x.f1 ≤ 4611686018427387903 := by
  induction l with
  | nil => intro x hx; cases hx
  | cons r rs ih =>
    obtain ⟨h1, h2, h3, h4, h5⟩ := h
    intro x hx
    rcases List.mem_cons.1 hx with rfl | hx
    · exact ⟨h1, h2, h3⟩
    · exact ih h5 x hx
theorem drop_rd (l : List S73) {i : Nat} (h : i < l.length) : l.drop i = rd_T73 l (i : Int) :: l.drop (i + 1) := by
  rw [List.drop_eq_getElem_cons h, rdR_some (List.getElem?_eq_getElem h)]
theorem Vd_drop (l : List S73) (h : ∀ j, j < l.length → Good l j) (n : Nat) : ∀ i : Nat, l.length - i = n → i ≤ l.length → Vd (l.drop i) ∧ (0 < i → ∀ x ∈ l.drop i, (rd_T73 l ((i : Int) - 1)).f1 + 1 < x.f0) := by
  induction n with
  | zero =>
    intro i hn hi
    have e : l.drop i = [] := List.drop_eq_nil_of_le (by omega)
    rw [e]
    exact ⟨trivial, fun _ x hx => by cases hx⟩
  | succ n ih =>
    intro i hn hi
    obtain ⟨h1, h2⟩ := ih (i + 1) (by omega) (by omega)
    have g := h i (by omega)
    have h2' := h2 (by omega)
    rw [show ((i + 1 : Nat) : Int) - 1 = (i : Int) by omega] at h2'
    rw [drop_rd l (by omega)]
    refine ⟨⟨g.1, g.2.1, g.2.2.1, h2', h1⟩, fun hp x hx => ?_⟩
    have gp := h (i - 1) (by omega)
    have e : ((i - 1 : Nat) : Int) = (i : Int) - 1 := by omega
    simp only [Good, e] at gp
    have g2 := g.2.1
    have g4 := g.2.2.2 hp
    rw [w64 (by omega) (by omega)] at g4
    rcases List.mem_cons.1 hx with rfl | hx
    · exact g4
    · have := h2' x hx
      omega
theorem Vd_of (l : List S73) (h : ∀ j, j < l.length → Good l j) : Vd l := (Vd_drop l h l.length 0 (by omega) (by omega)).1
/-- The program's way. -/
def F (one : S73) : List S73 → List S73
  | [] => [one]
  | r :: rs => if r.f1 < one.f0 - 1 then r :: F one rs else if r.f0 > one.f1 + 1 then one :: r :: rs else F ⟨mn one.f0 r.f0, mx one.f1 r.f1⟩ rs
/-- The reference's way: joined, the last one still open. -/
def G (last : S73) : List S73 → List S73
  | [] => [last]
  | r :: rs => if r.f0 ≤ last.f1 + 1 then G ⟨last.f0, mx last.f1 r.f1⟩ rs else last :: G r rs
def ins (n : Int) : List S73 → List S73
  | [] => [⟨n, n⟩]
  | r :: rs => if n < r.f0 then ⟨n, n⟩ :: r :: rs else r :: ins n rs
def joined : List S73 → List S73
  | [] => []
  | a :: ys => G a ys
theorem G_valid : ∀ (rs : List S73) (r : S73), Vd (r :: rs) → G r rs = r :: rs
  | [], _, _ => rfl
  | a :: ys, r, h => by
    obtain ⟨h1, h2, h3, h4, h5⟩ := h
    have := h4 a (by simp)
    rw [G, if_neg (by omega), G_valid ys a h5]
theorem G_F : ∀ (rs : List S73) (one : S73), Vd rs → (∀ x ∈ rs, one.f0 ≤ x.f0) → G one rs = F one rs
  | [], _, _, _ => rfl
  | a :: ys, one, h, hle => by
    have ha := hle a (by simp)
    have hv := Vd_all h a (by simp)
    rw [G, F, if_neg (show ¬ a.f1 < one.f0 - 1 by omega)]
    by_cases c : a.f0 ≤ one.f1 + 1
    · rw [if_pos c, if_neg (by omega), G_F ys ⟨one.f0, mx one.f1 a.f1⟩ h.2.2.2.2 (fun x hx => hle x (by simp [hx]))]
      have e : mn one.f0 a.f0 = one.f0 := by unfold mn; rw [if_neg (by omega)]
      rw [e]
    · rw [if_neg c, if_pos (by omega), G_valid ys a h]
theorem joined_F (n : Int) : ∀ l : List S73, Vd l → joined (ins n l) = F ⟨n, n⟩ l
  | [], _ => rfl
  | r :: rs, h => by
    obtain ⟨h1, h2, h3, h4, h5⟩ := h
    by_cases c : n < r.f0
    · rw [ins, if_pos c]
      exact G_F (r :: rs) ⟨n, n⟩ ⟨h1, h2, h3, h4, h5⟩ (fun x hx => by
        rcases List.mem_cons.1 hx with rfl | hx
        · show n ≤ _; omega
        · have := h4 x hx; show n ≤ _; omega)
    · rw [ins, if_neg c]
      have ih := joined_F n rs h5
      by_cases d : r.f1 < n - 1
      · rw [F, if_pos d, ← ih]
        show G r (ins n rs) = r :: joined (ins n rs)
        cases rs with
        | nil => simp only [ins, joined, G]; rw [if_neg (by show ¬ n ≤ _; omega)]
        | cons a ys =>
          have := h4 a (by simp)
          by_cases e : n < a.f0
          · simp only [ins, if_pos e, joined]
            rw [G, if_neg (by show ¬ n ≤ _; omega)]
          · simp only [ins, if_neg e, joined]
            rw [G, if_neg (by omega)]
      · have hi : ins n rs = ⟨n, n⟩ :: rs := by
          cases rs with
          | nil => rfl
          | cons a ys =>
            have := h4 a (by simp)
            rw [ins, if_pos (by omega)]
        have e1 : mn n r.f0 = r.f0 := by unfold mn; split <;> omega
        have e2 : mx n r.f1 = mx r.f1 n := by unfold mx; split <;> split <;> omega
        show G r (ins n rs) = _
        rw [hi, F, if_neg d, if_neg (by show ¬ r.f0 > n + 1; omega), G, if_pos (by show n ≤ _; omega), e1, e2]
        exact G_F rs _ h5 (fun x hx => by have := h4 x hx; show r.f0 ≤ _; omega)
theorem ins_length (n : Int) : ∀ l : List S73, (ins n l).length = l.length + 1
  | [] => rfl
  | r :: rs => by
    rw [ins]
    split
    · simp
    · simp [ins_length n rs]
theorem F_length : ∀ (l : List S73) (one : S73), (F one l).length ≤ l.length + 1
  | [], _ => by simp [F]
  | r :: rs, one => by
    rw [F]
    have h1 := F_length rs one
    have h2 := F_length rs ⟨mn one.f0 r.f0, mx one.f1 r.f1⟩
    split
    · simp; omega
    · split
      · simp
      · simp; omega
/-- What is kept: the oldest one goes where there are too many. -/
def fin (w : List S73) : List S73 := if (w.length : Int) > 64 then w.drop 1 else w
theorem fin_length {w : List S73} (h : w.length ≤ 65) : (fin w).length ≤ 64 := by
  unfold fin
  split
  · simp; omega
  · omega

/-! The reference's loops -/
theorem last_rd (o : List S73) (a : S73) : rd_T73 (o ++ [a]) (o.length : Int) = a := rdR_some (by simp)
theorem last_set (o : List S73) (a b : S73) : (o ++ [a]).set o.length b = o ++ [b] := by simp [List.set_append]
theorem join_loop (l : List S73) (hl : l.length ≤ 1048576) (hb : ∀ x ∈ l, 0 ≤ x.f1 ∧ x.f1 ≤ 4611686018427387903) (n : Nat) : ∀ (i : Nat) (o : List S73) (last : S73), l.length - i = n → i ≤ l.length → o.length ≤ i → (0 ≤ last.f1 ∧ last.f1 ≤ 4611686018427387903) →
    Ev (fun k => spec_l06Join.l0 k l (o ++ [last]) (i : Int)) (o ++ G last (l.drop i)) := by
  induction n with
  | zero =>
    intro i o last hn hi ho hlast
    refine Ev.step (fun k => rfl) ?_
    simp only [spec_l06Join.l0, show ¬ ((i : Int) < (l.length : Int)) by omega, if_false]
    exact Ev_now (by rw [List.drop_eq_nil_of_le (by omega)]; rfl)
  | succ n ih =>
    intro i o last hn hi ho hlast
    have hr := hb _ (List.mem_of_getElem? (rdR_get l (show i < l.length by omega)))
    have hL : ((o ++ [last]).length : Int) = (o.length : Int) + 1 := by simp
    have hm : wrap64 (((o ++ [last]).length : Int) - 1) = (o.length : Int) := by rw [hL, w64 (by omega) (by omega)]; omega
    rw [drop_rd l (by omega)]
    refine Ev.step (fun k => rfl) ?_
    simp only [spec_l06Join.l0, show ((i : Int) < (l.length : Int)) by omega, show (0 : Int) ≤ (i : Int) by omega, hm, show (o.length : Int) ≥ 0 by omega, show (0 : Int) ≤ (o.length : Int) by omega, show (o.length : Int) < ((o ++ [last]).length : Int) by omega, if_true, last_rd, w64 (x := last.f1 + 1) (by omega) (by omega), Int.toNat_natCast, last_set, next64 (show i < 4611686018427387904 by omega), show (o ++ [last]).length < 8796093022208 by omega]
    by_cases c : (rd_T73 l (i : Int)).f0 ≤ last.f1 + 1
    · have H := ih (i + 1) o ⟨last.f0, mx last.f1 (rd_T73 l (i : Int)).f1⟩ (by omega) (by omega) (by omega) (by show 0 ≤ mx _ _ ∧ mx _ _ ≤ _; unfold mx; split <;> omega)
      simp only [c, if_true, G]
      exact H
    · have H := ih (i + 1) (o ++ [last]) (rd_T73 l (i : Int)) (by omega) (by omega) (by simp; omega) hr
      simp only [c, if_false, G]
      exact Ev_cast H (by simp)
theorem join_ev (l : List S73) (hl : l.length ≤ 1048576) (hb : ∀ x ∈ l, 0 ≤ x.f1 ∧ x.f1 ≤ 4611686018427387903) (hne : l ≠ []) : Ev (fun k => spec_l06Join.f k l) (joined l) := by
  have h0 : 0 < l.length := List.length_pos_iff.2 hne
  have H := join_loop l hl hb (l.length - 1) 1 [] (rd_T73 l 0) (by omega) (by omega) (by simp) (hb _ (List.mem_of_getElem? (rdR_get l (i := 0) h0)))
  simp only [spec_l06Join.f]
  refine Ev.step (fun k => rfl) ?_
  simp only [spec_l06Join.l0, show ((0 : Int) < (l.length : Int)) by omega, List.length_nil, show ¬ (wrap64 (((0 : Nat) : Int) - 1) ≥ 0) by decide +kernel, show (0 : Int) ≤ 0 by decide, show (0 : Nat) < 8796093022208 by decide, if_true, if_false, List.nil_append, show wrap64 (0 + 1) = ((1 : Nat) : Int) by decide +kernel]
  refine Ev_cast H ?_
  have e := drop_rd l (i := 0) h0
  rw [List.drop_zero] at e
  rw [List.nil_append]
  have e2 : joined l = joined (rd_T73 l ((0 : Nat) : Int) :: l.drop (0 + 1)) := congrArg joined e
  rw [e2]
  rfl
theorem spec_fin (w : List S73) (hw : w.length ≤ 70) : (if (w.length : Int) > 64 then (if 1 ≤ (w.length : Int) then ((some (w.drop (1 : Int).toNat : List (S73))).bind fun y => ((some (([] : List (S73)) : List (S73))).bind fun z => (if z.length + y.length < 8796093022208 then (some ((z ++ y), (0 : Int))) else (none)))) else (none)) else ((some (([] : List (S73)) : List (S73))).bind fun z => (if z.length + w.length < 8796093022208 then (some ((z ++ w), 0)) else (none)))) = some (fin w, 0) := by
  unfold fin
  by_cases h : (w.length : Int) > 64
  · simp only [h, if_true, show (1 : Int) ≤ (w.length : Int) by omega, Option.bind_some, List.length_nil, Nat.zero_add, List.nil_append, show (1 : Int).toNat = 1 from rfl]
    rw [if_pos (by simp; omega)]
  · simp only [h, if_false, Option.bind_some, List.length_nil, Nat.zero_add, List.nil_append]
    rw [if_pos (by omega)]
theorem joined_le (n : Int) (l : List S73) (h : Vd l) (hl : l.length ≤ 64) : (joined (ins n l)).length ≤ 65 := by
  rw [joined_F n l h]
  have := F_length l ⟨n, n⟩
  omega
theorem spec_end (n : Int) (l a : List S73) (hv : Vd l) (hn : 0 ≤ n ∧ n ≤ 4611686018427387903) (hl : l.length ≤ 64) (ha : a = ins n l) : Ev (fun k => (spec_l06Join.f k a).bind fun t => (if (t.length : Int) > 64 then (if 1 ≤ (t.length : Int) then ((some (t.drop (1 : Int).toNat : List (S73))).bind fun y => ((some (([] : List (S73)) : List (S73))).bind fun z => (if z.length + y.length < 8796093022208 then (some ((z ++ y), (0 : Int))) else (none)))) else (none)) else ((some (([] : List (S73)) : List (S73))).bind fun z => (if z.length + t.length < 8796093022208 then (some ((z ++ t), 0)) else (none))))) (fin (F ⟨n, n⟩ l), 0) := by
  subst ha
  have hmem : ∀ x ∈ ins n l, 0 ≤ x.f1 ∧ x.f1 ≤ 4611686018427387903 := by
    clear hl
    induction l with
    | nil => intro x hx; simp only [ins, List.mem_singleton] at hx; subst hx; exact hn
    | cons r rs ih =>
      have hr := Vd_all hv
      intro x hx
      rw [ins] at hx
      split at hx
      · rcases List.mem_cons.1 hx with rfl | hx
        · exact hn
        · have := hr x hx; omega
      · rcases List.mem_cons.1 hx with rfl | hx
        · have := hr x (by simp); omega
        · exact ih hv.2.2.2.2 x hx
  refine Ev.bind (join_ev _ (by rw [ins_length]; omega) hmem (by intro h; have := ins_length n l; rw [h] at this; simp at this)) ?_
  rw [spec_fin _ (by have := joined_le n l hv hl; omega), joined_F n l hv]
  exact Ev.now _
theorem spec_loop_put (n : Int) (l L : List S73) (hv : Vd L) (hn : 0 ≤ n ∧ n ≤ 4611686018427387903) (hL : L.length ≤ 64) (hl : l.length ≤ 64) (d : Nat) : ∀ (i : Nat) (a : List S73), l.length - i = d → i ≤ l.length → a.length ≤ i + 1 → a ++ l.drop i = ins n L → Ev (fun k => spec_RangesAdd.l0 k l n a true (i : Int)) (fin (F ⟨n, n⟩ L), 0) := by
  induction d with
  | zero =>
    intro i a hd hi ha he
    rw [List.drop_eq_nil_of_le (by omega), List.append_nil] at he
    refine Ev.step (fun k => rfl) ?_
    simp only [spec_RangesAdd.l0, show ¬ ((i : Int) < (l.length : Int)) by omega, if_false, if_true]
    exact spec_end n L a hv hn hL he
  | succ d ih =>
    intro i a hd hi ha he
    have H := ih (i + 1) (a ++ [⟨(rd_T73 l (i : Int)).f0, (rd_T73 l (i : Int)).f1⟩]) (by omega) (by omega) (by simp; omega) (by rw [← he, drop_rd l (show i < l.length by omega), List.append_assoc]; rfl)
    refine Ev.step (fun k => rfl) ?_
    simp only [spec_RangesAdd.l0, show ((i : Int) < (l.length : Int)) by omega, show (0 : Int) ≤ (i : Int) by omega, show a.length < 8796093022208 by omega, if_true, next64 (show i < 4611686018427387904 by omega)]
    exact H
theorem spec_loop (n : Int) (l : List S73) (hv : Vd l) (hn : 0 ≤ n ∧ n ≤ 4611686018427387903) (hl : l.length ≤ 64) (d : Nat) : ∀ (i : Nat) (a : List S73), l.length - i = d → i ≤ l.length → a.length ≤ i → a ++ ins n (l.drop i) = ins n l → Ev (fun k => spec_RangesAdd.l0 k l n a false (i : Int)) (fin (F ⟨n, n⟩ l), 0) := by
  induction d with
  | zero =>
    intro i a hd hi ha he
    rw [List.drop_eq_nil_of_le (by omega)] at he
    refine Ev.step (fun k => rfl) ?_
    simp only [spec_RangesAdd.l0, show ¬ ((i : Int) < (l.length : Int)) by omega, if_false, Bool.false_eq_true, show a.length < 8796093022208 by omega, if_true]
    exact spec_end n l _ hv hn hl he
  | succ d ih =>
    intro i a hd hi ha he
    rw [drop_rd l (show i < l.length by omega), ins] at he
    refine Ev.step (fun k => rfl) ?_
    simp only [spec_RangesAdd.l0, show ((i : Int) < (l.length : Int)) by omega, show (0 : Int) ≤ (i : Int) by omega, show a.length < 8796093022208 by omega, if_true, if_false, Bool.false_eq_true, next64 (show i < 4611686018427387904 by omega)]
    by_cases c : n < (rd_T73 l (i : Int)).f0
    · rw [if_pos c] at he
      have H := spec_loop_put n l l hv hn hl hl d (i + 1) ((a ++ [⟨n, n⟩]) ++ [⟨(rd_T73 l (i : Int)).f0, (rd_T73 l (i : Int)).f1⟩]) (by omega) (by omega) (by simp; omega) (by rw [← he]; simp)
      simp only [c, if_true, Option.bind_some, show (a ++ [(⟨n, n⟩ : S73)]).length < 8796093022208 by simp; omega]
      exact H
    · rw [if_neg c] at he
      have H := ih (i + 1) (a ++ [⟨(rd_T73 l (i : Int)).f0, (rd_T73 l (i : Int)).f1⟩]) (by omega) (by omega) (by simp; omega) (by rw [← he]; simp)
      simp only [c, if_false]
      exact H
/-! The program's loop -/
theorem impl_fin (w : List S73) : (if (w.length : Int) > 64 then (if 1 ≤ (w.length : Int) then (some (w.drop (1 : Int).toNat)) else (none)) else (some w)) = some (fin w) := by
  unfold fin
  by_cases h : (w.length : Int) > 64
  · simp only [h, if_true, show (1 : Int) ≤ (w.length : Int) by omega]; rfl
  · simp only [h, if_false]
theorem impl_done (l : List S73) (hl : l.length ≤ 64) (lo hi : Int) (hb : 0 ≤ lo ∧ lo ≤ hi ∧ hi ≤ 4611686018427387903) (d : Nat) : ∀ (i : Nat) (o : List S73), l.length - i = d → i ≤ l.length → o.length ≤ i + 1 → Vd (l.drop i) → (∀ x ∈ l.drop i, hi + 1 < x.f0) →
    Ev (fun k => impl_rangesAdd.l0 k o true l (l.length : Int) (i : Int) lo hi) (fin (o ++ l.drop i)) := by
  induction d with
  | zero =>
    intro i o hd hi' ho hv hx
    refine Ev.step (fun k => rfl) ?_
    simp only [impl_rangesAdd.l0, show ¬ ((i : Int) < (l.length : Int)) by omega, if_false, if_true, impl_fin]
    exact Ev_now (by rw [List.drop_eq_nil_of_le (by omega), List.append_nil])
  | succ d ih =>
    intro i o hd hi' ho hv hx
    rw [drop_rd l (show i < l.length by omega)] at hv hx ⊢
    have h1 := hx _ (List.mem_cons_self)
    have h2 := Vd_all hv _ (List.mem_cons_self)
    have H := ih (i + 1) (o ++ [⟨(rd_T73 l (i : Int)).f0, (rd_T73 l (i : Int)).f1⟩]) (by omega) (by omega) (by simp; omega) hv.2.2.2.2 (fun x h => hx x (List.mem_cons_of_mem _ h))
    rw [List.append_assoc] at H
    refine Ev.step (fun k => rfl) ?_
    simp only [impl_rangesAdd.l0, show ((i : Int) < (l.length : Int)) by omega, show (0 : Int) ≤ (i : Int) by omega, show o.length < 8796093022208 by omega, if_true, next64 (show i < 4611686018427387904 by omega), w64 (x := lo - 1) (by omega) (by omega), w64 (x := hi + 1) (by omega) (by omega), show ¬ ((rd_T73 l (i : Int)).f1 < lo - 1) by omega, show (rd_T73 l (i : Int)).f0 > hi + 1 by omega, if_false]
    exact H
theorem impl_loop (l : List S73) (hl : l.length ≤ 64) (d : Nat) : ∀ (i : Nat) (o : List S73) (lo hi : Int), l.length - i = d → i ≤ l.length → o.length ≤ i → Vd (l.drop i) → (0 ≤ lo ∧ lo ≤ hi ∧ hi ≤ 4611686018427387903) →
    Ev (fun k => impl_rangesAdd.l0 k o false l (l.length : Int) (i : Int) lo hi) (fin (o ++ F ⟨lo, hi⟩ (l.drop i))) := by
  induction d with
  | zero =>
    intro i o lo hi hd hi' ho hv hb
    refine Ev.step (fun k => rfl) ?_
    simp only [impl_rangesAdd.l0, show ¬ ((i : Int) < (l.length : Int)) by omega, if_false, Bool.false_eq_true, show o.length < 8796093022208 by omega, if_true, Option.bind_some, impl_fin]
    exact Ev_now (by rw [List.drop_eq_nil_of_le (by omega)]; rfl)
  | succ d ih =>
    intro i o lo hi hd hi' ho hv hb
    rw [drop_rd l (show i < l.length by omega)] at hv ⊢
    have h2 := Vd_all hv _ (List.mem_cons_self)
    refine Ev.step (fun k => rfl) ?_
    simp only [impl_rangesAdd.l0, show ((i : Int) < (l.length : Int)) by omega, show (0 : Int) ≤ (i : Int) by omega, show o.length < 8796093022208 by omega, if_true, next64 (show i < 4611686018427387904 by omega), w64 (x := lo - 1) (by omega) (by omega), w64 (x := hi + 1) (by omega) (by omega), Bool.false_eq_true, if_false, F]
    by_cases c : (rd_T73 l (i : Int)).f1 < lo - 1
    · have H := ih (i + 1) (o ++ [⟨(rd_T73 l (i : Int)).f0, (rd_T73 l (i : Int)).f1⟩]) lo hi (by omega) (by omega) (by simp; omega) hv.2.2.2.2 hb
      rw [List.append_assoc] at H
      simp only [c, if_true]
      exact H
    · by_cases e : (rd_T73 l (i : Int)).f0 > hi + 1
      · have H := impl_done l hl lo hi hb d (i + 1) ((o ++ [⟨lo, hi⟩]) ++ [⟨(rd_T73 l (i : Int)).f0, (rd_T73 l (i : Int)).f1⟩]) (by omega) (by omega) (by simp; omega) hv.2.2.2.2 (fun x hx => by have := hv.2.2.2.1 x hx; omega)
        simp only [c, e, if_true, if_false, Option.bind_some, show (o ++ [(⟨lo, hi⟩ : S73)]).length < 8796093022208 by simp; omega]
        refine Ev_cast H ?_
        simp
      · have H := ih (i + 1) o (mn lo (rd_T73 l (i : Int)).f0) (mx hi (rd_T73 l (i : Int)).f1) (by omega) (by omega) (by omega) hv.2.2.2.2 (by unfold mn mx; split <;> split <;> omega)
        simp only [c, e, if_false]
        exact H
/-- Both answer, and the same. -/
theorem both (l : List S73) (n : Int) (hl : l.length ≤ 1048576) : ∃ w e, Ev (fun k => spec_RangesAdd.f k l n) (w, e) ∧ Ev (fun k => impl_RangesAdd.f k l n) (w, e) ∧ w.length ≤ 64 := by
  obtain ⟨o, hs, hi, ho⟩ := ok_both l hl
  have yes : Ev (fun k => spec_RangesAdd.j0 k l n true) ([], 1) := Ev.step (f := fun _ => some ([], 1)) (fun k => by simp only [spec_RangesAdd.j0, if_true]) (Ev.now _)
  simp only [spec_RangesAdd.f, impl_RangesAdd.f, l05Var_eq, inVar_eq, Option.bind_some]
  cases o with
  | false => exact ⟨[], 1, Ev.bind hs (by simp only [Bool.false_eq_true, if_false]; exact yes), Ev.bind hi (by simp only [Bool.false_eq_true, if_false]; exact Ev.now _), by simp⟩
  | true =>
    obtain ⟨hl6, hg⟩ := ho rfl
    have hv := Vd_of l hg
    by_cases c : 0 ≤ n ∧ n ≤ 4611686018427387903
    · have h1 := spec_loop n l hv c hl6 l.length 0 [] (by omega) (by omega) (by simp) (by simp)
      have h2 := impl_loop l hl6 l.length 0 [] n n (by omega) (by omega) (by simp) (by simpa using hv) ⟨c.1, by omega, c.2⟩
      rw [List.nil_append, List.drop_zero] at h2
      have hlen := fin_length (w := F ⟨n, n⟩ l) (by have := F_length l ⟨n, n⟩; omega)
      refine ⟨fin (F ⟨n, n⟩ l), 0, Ev.bind hs ?_, Ev.bind hi ?_, hlen⟩
      · simp only [if_true, decide_eq_true c, Bool.not_true]
        refine Ev.step (fun k => rfl) ?_
        simp only [spec_RangesAdd.j0, Bool.false_eq_true, if_false]; exact h1
      · simp only [if_true, decide_eq_true c, impl_rangesAdd.f]
        refine Ev.bind h2 ?_
        simp only [List.length_nil, Nat.zero_add, show (fin (F ⟨n, n⟩ l)).length < 8796093022208 by omega, if_true, List.nil_append]
        exact Ev.now _
    · exact ⟨[], 1, Ev.bind hs (by simp only [if_true, decide_eq_false c, Bool.not_false]; exact yes), Ev.bind hi (by simp only [if_true, decide_eq_false c, Bool.false_eq_true, if_false]; exact Ev.now _), by simp⟩

theorem FnExactRangesAdd (l0 : List S75) (m : Int) (q0 : l0.length ≤ maxLen ∧ ∀ x ∈ l0, (Lit.int .i64 x.f0).wf = true ∧ (Lit.int .i64 x.f1).wf = true) (h1 : (Lit.int .i64 m).wf = true) : ∃ k, laws_FnExactRangesAdd.f k l0 m = some true := by
  refine Ev.rounds (g := fun k => laws_FnExactRangesAdd.f k l0 m) ?_
  simp only [laws_FnExactRangesAdd.f]
  rcases szRangeS_at l0 1048576 q0.1 (by omega) with ⟨_, e⟩ | ⟨hl, e⟩
  · simp only [e, Option.bind_some, show (-1 : Int) < 0 by decide, if_true]; exact Ev.now _
  · simp only [e, Option.bind_some, show ¬ ((1048576 : Int) - (l0.length : Int) < 0) by omega, if_false]
    obtain ⟨w, e, hs, hi, hw⟩ := both (l0.map conv) m (by rw [List.length_map]; omega)
    repeat' first
      | exact Ev.now _
      | refine Ev.bind hs ?_
      | refine Ev.bind hi ?_
      | refine Ev.bind (toRangeS_ev _ (by omega)) ?_
      | refine Ev.bind (eqRangeS_ev _ (by first | omega | (rw [List.length_map]; omega))) ?_
      | refine Ev.bind (markRangeS_ev _ _ (by omega) (by first | omega | (rw [List.length_map]; omega))) ?_
      | refine Ev.bind (heldRangeS_ev _ _ (by omega) (by omega)) ?_
      | simp only [if_true, if_false, bne_self_eq_false, Bool.false_eq_true, marksR_length]
      | (refine Ev.step (fun k => rfl) ?_; simp only [laws_FnExactRangesAdd.j0, laws_FnExactRangesAdd.j1, laws_FnExactRangesAdd.j2])
      | refine Ev_ite (fun c => absurd c (by omega)) (fun _ => ?_)

end Go.Proofs.Ytkfoneckbnggoaa.Pure
