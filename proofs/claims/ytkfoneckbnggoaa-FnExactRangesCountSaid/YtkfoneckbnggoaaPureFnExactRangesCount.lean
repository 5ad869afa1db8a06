/- For all lists of ranges: the program's RangesCount and the reference's tell the same number. No condition. -/
import Derived.Test.YtkfoneckbnggoaaPFnExactRangesCountx4
import Derived.Test.YtkfoneckbnggoaaMath
namespace Go.Proofs.Ytkfoneckbnggoaa.Pure
open Go.RowKit Go.Proofs.Ytkfoneckbnggoaa.PFnExactRangesCount Go.Proofs.YtkfoneckbnggoaaW.PrintWords Go.Proofs.YtkfoneckbnggoaaW.PrintLast Go.Proofs.YtkfoneckbnggoaaW.PrintMore Go.Proofs.Ytkfoneckbnggoaa.Math
set_option linter.unusedVariables false
set_option linter.unusedSimpArgs false

theorem rdR_some {l : List S73} {i : Nat} {v : S73} (h : l[i]? = some v) : rd_T73 l (i : Int) = v := by
  unfold rd_T73; rw [Int.toNat_natCast, List.getD_eq_getElem?_getD, h]; rfl
theorem rdR_get (l : List S73) {i : Nat} (h : i < l.length) : l[i]? = some (rd_T73 l (i : Int)) := by
  have e := List.getElem?_eq_getElem h
  rw [rdR_some e]; exact e
theorem rdW_some {l : List S75} {i : Nat} {v : S75} (h : l[i]? = some v) : rd_T75 l (i : Int) = v := by
  unfold rd_T75; rw [Int.toNat_natCast, List.getD_eq_getElem?_getD, h]; rfl
theorem rdW_get (l : List S75) {i : Nat} (h : i < l.length) : l[i]? = some (rd_T75 l (i : Int)) := by
  have e := List.getElem?_eq_getElem h
  rw [rdW_some e]; exact e
/-- A range of the laws' package, in the program's. -/
def conv (x : S75) : S73 := ⟨x.f0, x.f1⟩
theorem szRangeS_at (l : List S75) (m : Int) (hl : l.length ≤ maxLen) (hm : 0 ≤ m ∧ m ≤ 1048576) : (m < l.length ∧ laws_szRangeS.f l m = some (-1)) ∨ (l.length ≤ m ∧ laws_szRangeS.f l m = some (m - l.length)) := by
  unfold maxLen at hl
  unfold laws_szRangeS.f
  rw [w64 (by omega) (by omega)]
  by_cases h : m - (l.length : Int) < 0
  · rw [if_pos h]; exact .inl ⟨by omega, rfl⟩
  · rw [if_neg h]; exact .inr ⟨by omega, rfl⟩
theorem toRangeS_loop (l : List S75) (hl : l.length ≤ 1048576) (n : Nat) : ∀ (x : List S73) (i : Nat), l.length - i = n → i ≤ l.length → x.length = l.length → (∀ j, j < i → x[j]? = (l.map conv)[j]?) → Ev (fun k => laws_toRangeS.l0 k l x (i : Int)) (l.map conv) := by
  induction n with
  | zero =>
    intro x i hn hi hx h
    refine Ev.step (fun k => rfl) ?_
    simp only [laws_toRangeS.l0, show ¬ ((i : Int) < (l.length : Int)) by omega, if_false]
    exact Ev_now (prefix_all (by rw [List.length_map]; exact hx) (fun j hj => h j (by rw [List.length_map] at hj; omega)))
  | succ n ih =>
    intro x i hn hi hx h
    have hil : i < l.length := by omega
    have H := ih (x.set i (conv (rd_T75 l (i : Int)))) (i + 1) (by omega) (by omega) (by rw [List.length_set]; exact hx) (set_prefix (by rw [List.length_map]; exact hx) (by rw [List.getElem?_map, rdW_get l hil]; rfl) h)
    refine Ev.step (fun k => rfl) ?_
    simp only [laws_toRangeS.l0, laws_toRange.f, Option.bind_some, show ((i : Int) < (l.length : Int)) by omega, show (0 : Int) ≤ (i : Int) by omega, show ((i : Int) < (x.length : Int)) by omega, if_true, Int.toNat_natCast, next64 (show i < 4611686018427387904 by omega)]
    exact H
theorem toRangeS_ev (l : List S75) (hl : l.length ≤ 1048576) : Ev (fun k => laws_toRangeS.f k l) (l.map conv) := by
  simp only [laws_toRangeS.f, show (0 : Int) ≤ (l.length : Int) by omega, if_true, Int.toNat_natCast, show l.length ≤ 17592186044416 by omega]
  exact toRangeS_loop l hl l.length _ 0 (by omega) (by omega) (by simp) (fun j hj => by omega)
theorem eqRangeS_loop (l : List S73) (hl : l.length ≤ 281474976710656) (n : Nat) : ∀ (i : Nat), l.length - i = n → i ≤ l.length → Ev (fun k => laws_eqRangeS.l0 k l l (i : Int)) true := by
  induction n with
  | zero =>
    intro i hn hi
    refine Ev.step (fun k => rfl) ?_
    simp only [laws_eqRangeS.l0, show ¬ ((i : Int) < (l.length : Int)) by omega, if_false]
    exact Ev.now _
  | succ n ih =>
    intro i hn hi
    have H := ih (i + 1) (by omega) (by omega)
    refine Ev.step (fun k => rfl) ?_
    simp only [laws_eqRangeS.l0, laws_eqRange.f, Option.bind_some, show ((i : Int) < (l.length : Int)) by omega, show (0 : Int) ≤ (i : Int) by omega, if_true, next64 (show i < 4611686018427387904 by omega)]
    exact H
theorem eqRangeS_ev (l : List S73) (hl : l.length ≤ 281474976710656) : Ev (fun k => laws_eqRangeS.f k l l) true := by
  simp only [laws_eqRangeS.f, if_true]
  exact eqRangeS_loop l hl l.length 0 (by omega) (by omega)
/-- Range number j of a list is right, and lies behind the one ahead of it. -/
def Good (l : List S73) (j : Nat) : Prop :=
  0 ≤ (rd_T73 l (j : Int)).f0 ∧ (rd_T73 l (j : Int)).f0 ≤ (rd_T73 l (j : Int)).f1 ∧ (rd_T73 l (j : Int)).f1 ≤ 4611686018427387903 ∧ (0 < j → wrap64 ((rd_T73 l ((j : Int) - 1)).f1 + 1) < (rd_T73 l (j : Int)).f0)
theorem inVar_eq (a : Int) : impl_inVar.f a = some (decide (0 ≤ a ∧ a ≤ 4611686018427387903)) := by
  unfold impl_inVar.f
  by_cases h : a ≥ 0
  · rw [if_pos h]; exact congrArg some (by rw [decide_eq_decide]; omega)
  · rw [if_neg h]; exact congrArg some (decide_eq_false (by omega)).symm
theorem ok_loop (l : List S73) (hl : l.length ≤ 1048576) (n : Nat) : ∀ i : Nat, l.length - i = n → i ≤ l.length →
    ∃ b, Ev (fun k => spec_l05RangesOK.l0 k l (i : Int)) b ∧ Ev (fun k => impl_rangesOK.l0 k l l (l.length : Int) (i : Int)) b ∧ (b = true → ∀ j, i ≤ j → j < l.length → Good l j) := by
  induction n with
  | zero =>
    intro i hn hi
    refine ⟨true, ?_, ?_, fun _ j h1 h2 => by omega⟩
    · refine Ev.step (fun k => rfl) ?_
      simp only [spec_l05RangesOK.l0, show ¬ ((i : Int) < (l.length : Int)) by omega, if_false]
      exact Ev.now _
    · refine Ev.step (fun k => rfl) ?_
      simp only [impl_rangesOK.l0, show ¬ ((i : Int) < (l.length : Int)) by omega, if_false]
      exact Ev.now _
  | succ n ih =>
    intro i hn hi
    have bad : ∀ (h : ¬ Good l i), Ev (fun k => spec_l05RangesOK.l0 k l (i : Int)) false ∧ Ev (fun k => impl_rangesOK.l0 k l l (l.length : Int) (i : Int)) false → ∃ b, Ev (fun k => spec_l05RangesOK.l0 k l (i : Int)) b ∧ Ev (fun k => impl_rangesOK.l0 k l l (l.length : Int) (i : Int)) b ∧ (b = true → ∀ j, i ≤ j → j < l.length → Good l j) :=
      fun _ h => ⟨false, h.1, h.2, fun h => by cases h⟩
    obtain ⟨b, hs, hi', hb⟩ := ih (i + 1) (by omega) (by omega)
    by_cases c1 : 0 ≤ (rd_T73 l (i : Int)).f0 ∧ (rd_T73 l (i : Int)).f0 ≤ (rd_T73 l (i : Int)).f1 ∧ (rd_T73 l (i : Int)).f1 ≤ 4611686018427387903
    · by_cases c2 : 0 < i
      · by_cases c3 : (rd_T73 l (i : Int)).f0 ≤ wrap64 ((rd_T73 l ((i : Int) - 1)).f1 + 1)
        · refine bad (fun h => by have := h.2.2.2 c2; omega) ⟨?_, ?_⟩
          · refine Ev.step (fun k => rfl) ?_
            simp only [spec_l05RangesOK.l0, show ((i : Int) < (l.length : Int)) by omega, show (0 : Int) ≤ (i : Int) by omega, show ¬ ((rd_T73 l (i : Int)).f0 < 0) by omega, show ¬ ((rd_T73 l (i : Int)).f1 > 4611686018427387903) by omega, show ¬ ((rd_T73 l (i : Int)).f0 > (rd_T73 l (i : Int)).f1) by omega, show (i : Int) > 0 by omega, w64 (x := (i : Int) - 1) (by omega) (by omega), show (0 : Int) ≤ (i : Int) - 1 by omega, show (i : Int) - 1 < (l.length : Int) by omega, if_true, if_false, c3]
            exact Ev.now _
          · refine Ev.step (fun k => rfl) ?_
            simp only [impl_rangesOK.l0, inVar_eq, Option.bind_some, show ((i : Int) < (l.length : Int)) by omega, show (0 : Int) ≤ (i : Int) by omega, show (0 ≤ (rd_T73 l (i : Int)).f0 ∧ (rd_T73 l (i : Int)).f0 ≤ 4611686018427387903) by omega, show (0 ≤ (rd_T73 l (i : Int)).f1 ∧ (rd_T73 l (i : Int)).f1 ≤ 4611686018427387903) by omega, show ¬ ((rd_T73 l (i : Int)).f0 > (rd_T73 l (i : Int)).f1) by omega, and_self, decide_true, show (i : Int) > 0 by omega, w64 (x := (i : Int) - 1) (by omega) (by omega), show (0 : Int) ≤ (i : Int) - 1 by omega, show (i : Int) - 1 < (l.length : Int) by omega, if_true, if_false, c3]
            exact Ev.now _
        · refine ⟨b, ?_, ?_, fun h j h1 h2 => ?_⟩
          · refine Ev.step (fun k => rfl) ?_
            simp only [spec_l05RangesOK.l0, show ((i : Int) < (l.length : Int)) by omega, show (0 : Int) ≤ (i : Int) by omega, show ¬ ((rd_T73 l (i : Int)).f0 < 0) by omega, show ¬ ((rd_T73 l (i : Int)).f1 > 4611686018427387903) by omega, show ¬ ((rd_T73 l (i : Int)).f0 > (rd_T73 l (i : Int)).f1) by omega, show (i : Int) > 0 by omega, w64 (x := (i : Int) - 1) (by omega) (by omega), show (0 : Int) ≤ (i : Int) - 1 by omega, show (i : Int) - 1 < (l.length : Int) by omega, if_true, if_false, c3, next64 (show i < 4611686018427387904 by omega)]
            exact hs
          · refine Ev.step (fun k => rfl) ?_
            simp only [impl_rangesOK.l0, inVar_eq, Option.bind_some, show ((i : Int) < (l.length : Int)) by omega, show (0 : Int) ≤ (i : Int) by omega, show (0 ≤ (rd_T73 l (i : Int)).f0 ∧ (rd_T73 l (i : Int)).f0 ≤ 4611686018427387903) by omega, show (0 ≤ (rd_T73 l (i : Int)).f1 ∧ (rd_T73 l (i : Int)).f1 ≤ 4611686018427387903) by omega, show ¬ ((rd_T73 l (i : Int)).f0 > (rd_T73 l (i : Int)).f1) by omega, and_self, decide_true, show (i : Int) > 0 by omega, w64 (x := (i : Int) - 1) (by omega) (by omega), show (0 : Int) ≤ (i : Int) - 1 by omega, show (i : Int) - 1 < (l.length : Int) by omega, if_true, if_false, c3, next64 (show i < 4611686018427387904 by omega)]
            exact hi'
          · by_cases e : j = i
            · subst e; exact ⟨c1.1, c1.2.1, c1.2.2, fun _ => by omega⟩
            · exact hb h j (by omega) h2
      · refine ⟨b, ?_, ?_, fun h j h1 h2 => ?_⟩
        · refine Ev.step (fun k => rfl) ?_
          simp only [spec_l05RangesOK.l0, show ((i : Int) < (l.length : Int)) by omega, show (0 : Int) ≤ (i : Int) by omega, show ¬ ((rd_T73 l (i : Int)).f0 < 0) by omega, show ¬ ((rd_T73 l (i : Int)).f1 > 4611686018427387903) by omega, show ¬ ((rd_T73 l (i : Int)).f0 > (rd_T73 l (i : Int)).f1) by omega, show ¬ ((i : Int) > 0) by omega, if_true, if_false, next64 (show i < 4611686018427387904 by omega)]
          exact hs
        · refine Ev.step (fun k => rfl) ?_
          simp only [impl_rangesOK.l0, inVar_eq, Option.bind_some, show ((i : Int) < (l.length : Int)) by omega, show (0 : Int) ≤ (i : Int) by omega, show (0 ≤ (rd_T73 l (i : Int)).f0 ∧ (rd_T73 l (i : Int)).f0 ≤ 4611686018427387903) by omega, show (0 ≤ (rd_T73 l (i : Int)).f1 ∧ (rd_T73 l (i : Int)).f1 ≤ 4611686018427387903) by omega, show ¬ ((rd_T73 l (i : Int)).f0 > (rd_T73 l (i : Int)).f1) by omega, and_self, decide_true, show ¬ ((i : Int) > 0) by omega, if_true, if_false, next64 (show i < 4611686018427387904 by omega)]
          exact hi'
        · by_cases e : j = i
          · subst e; exact ⟨c1.1, c1.2.1, c1.2.2, fun h => by omega⟩
          · exact hb h j (by omega) h2
    · refine bad (fun h => c1 ⟨h.1, h.2.1, h.2.2.1⟩) ⟨?_, ?_⟩
      · refine Ev.step (fun k => rfl) ?_
        simp only [spec_l05RangesOK.l0, show ((i : Int) < (l.length : Int)) by omega, show (0 : Int) ≤ (i : Int) by omega, if_true]
        refine Ev_ite (fun _ => Ev.now _) (fun d1 => ?_)
        refine Ev_ite (fun _ => Ev.now _) (fun d2 => ?_)
        refine Ev_ite (fun _ => Ev.now _) (fun d3 => ?_)
        omega
      · refine Ev.step (fun k => rfl) ?_
        simp only [impl_rangesOK.l0, inVar_eq, Option.bind_some, show ((i : Int) < (l.length : Int)) by omega, show (0 : Int) ≤ (i : Int) by omega, if_true, decide_eq_true_eq]
        refine Ev_ite (fun _ => Ev.now _) (fun d1 => ?_)
        refine Ev_ite (fun d2 => ?_) (fun _ => Ev.now _)
        refine Ev_ite (fun d3 => ?_) (fun _ => Ev.now _)
        omega
/-- Both tell the same of a list; where they say yes, it is short and each range is right. -/
theorem ok_both (l : List S73) (hl : l.length ≤ 1048576) : ∃ b, Ev (fun k => spec_l05RangesOK.f k l) b ∧ Ev (fun k => impl_rangesOK.f k l) b ∧ (b = true → l.length ≤ 64 ∧ ∀ j, j < l.length → Good l j) := by
  simp only [spec_l05RangesOK.f, impl_rangesOK.f]
  by_cases h : (l.length : Int) > 64
  · simp only [h, if_true]; exact ⟨_, Ev.now _, Ev.now _, fun h => by cases h⟩
  · simp only [h, if_false]
    obtain ⟨b, hs, hi, hb⟩ := ok_loop l hl l.length 0 (by omega) (by omega)
    exact ⟨b, hs, hi, fun h => ⟨by omega, fun j hj => hb h j (by omega) hj⟩⟩

theorem wrap_sum (s a b : Int) : wrap64 (s + wrap64 (wrap64 (b - a) + 1)) = wrap64 (wrap64 (wrap64 (s + b) - a) + 1) := by unfold wrap64; omega
theorem count_loop (l : List S73) (hl : l.length ≤ 1048576) (n : Nat) : ∀ (i : Nat) (s : Int), l.length - i = n → i ≤ l.length → ∃ r, Ev (fun k => spec_RangesCount.l0 k l s (i : Int)) r ∧ Ev (fun k => impl_RangesCount.l0 k s l (l.length : Int) (i : Int)) r := by
  induction n with
  | zero =>
    intro i s hn hi
    refine ⟨s, ?_, ?_⟩
    · refine Ev.step (fun k => rfl) ?_
      simp only [spec_RangesCount.l0, show ¬ ((i : Int) < (l.length : Int)) by omega, if_false]
      exact Ev.now _
    · refine Ev.step (fun k => rfl) ?_
      simp only [impl_RangesCount.l0, show ¬ ((i : Int) < (l.length : Int)) by omega, if_false]
      exact Ev.now _
  | succ n ih =>
    intro i s hn hi
    obtain ⟨r, hs, hi'⟩ := ih (i + 1) (wrap64 (wrap64 (wrap64 (s + (rd_T73 l (i : Int)).f1) - (rd_T73 l (i : Int)).f0) + 1)) (by omega) (by omega)
    refine ⟨r, ?_, ?_⟩
    · refine Ev.step (fun k => rfl) ?_
      simp only [spec_RangesCount.l0, show ((i : Int) < (l.length : Int)) by omega, show (0 : Int) ≤ (i : Int) by omega, if_true, next64 (show i < 4611686018427387904 by omega)]
      exact hs
    · refine Ev.step (fun k => rfl) ?_
      simp only [impl_RangesCount.l0, show ((i : Int) < (l.length : Int)) by omega, show (0 : Int) ≤ (i : Int) by omega, if_true, next64 (show i < 4611686018427387904 by omega), wrap_sum]
      exact hi'
/-- Both answer, and the same. -/
theorem both (l : List S73) (hl : l.length ≤ 1048576) : ∃ b, Ev (fun k => spec_RangesCount.f k l) b ∧ Ev (fun k => impl_RangesCount.f k l) b := by
  obtain ⟨o, hs, hi, _⟩ := ok_both l hl
  simp only [spec_RangesCount.f, impl_RangesCount.f]
  cases o with
  | false => exact ⟨0, Ev.bind hs (by simp only [Bool.false_eq_true, if_false]; exact Ev.now _), Ev.bind hi (by simp only [Bool.false_eq_true, if_false]; exact Ev.now _)⟩
  | true =>
    obtain ⟨b, h1, h2⟩ := count_loop l hl l.length 0 0 (by omega) (by omega)
    exact ⟨b, Ev.bind hs (by simp only [if_true]; exact h1), Ev.bind hi (by simp only [if_true]; exact h2)⟩

theorem FnExactRangesCount (l0 : List S75) (q0 : l0.length ≤ maxLen ∧ ∀ x ∈ l0, (Lit.int .i64 x.f0).wf = true ∧ (Lit.int .i64 x.f1).wf = true) : ∃ k, laws_FnExactRangesCount.f k l0 = some true := by
  refine Ev.rounds (g := fun k => laws_FnExactRangesCount.f k l0) ?_
  simp only [laws_FnExactRangesCount.f]
  rcases szRangeS_at l0 1048576 q0.1 (by omega) with ⟨_, e⟩ | ⟨hl, e⟩
  · simp only [e, Option.bind_some, show (-1 : Int) < 0 by decide, if_true]; exact Ev.now _
  · simp only [e, Option.bind_some, show ¬ ((1048576 : Int) - (l0.length : Int) < 0) by omega, if_false]
    obtain ⟨b, hs, hi⟩ := both (l0.map conv) (by rw [List.length_map]; omega)
    repeat' first
      | exact Ev.now _
      | refine Ev.bind hs ?_
      | refine Ev.bind hi ?_
      | refine Ev.bind (toRangeS_ev _ (by omega)) ?_
      | refine Ev.bind (eqRangeS_ev _ (by rw [List.length_map]; omega)) ?_
      | simp only [if_true, if_false, bne_self_eq_false, Bool.false_eq_true]

end Go.Proofs.Ytkfoneckbnggoaa.Pure
