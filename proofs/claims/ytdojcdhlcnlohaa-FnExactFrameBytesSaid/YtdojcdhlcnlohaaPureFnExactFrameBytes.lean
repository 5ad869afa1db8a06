/- For all frames: the program's FrameBytes and the reference's tell the same bytes and code, in memory of their own. -/
import Derived.Test.YtdojcdhlcnlohaaSFnExactFrameBytesx15
import Derived.Test.YtdojcdhlcnlohaaBMath
namespace Go.Proofs.Ytdojcdhlcnlohaa.Pure
open Go.RowKit Go.Proofs.Ytdojcdhlcnlohaa.SFnExactFrameBytes Go.Proofs.YtdojcdhlcnlohaaW.PrintWords Go.Proofs.YtdojcdhlcnlohaaW.PrintLast Go.Proofs.YtdojcdhlcnlohaaW.PrintMore Go.Proofs.Ytdojcdhlcnlohaa.Math
set_option linter.unusedVariables false
set_option linter.unusedSimpArgs false

theorem toByteS_loop (l : List Int) (hl : l.length ≤ 281474976710656) (n : Nat) : ∀ (x : List Int) (i : Nat), l.length - i = n → i ≤ l.length → x.length = l.length → (∀ j, j < i → x[j]? = l[j]?) → Ev (fun k => laws_toByteS.l0 k l x (i : Int)) l := by
  induction n with
  | zero =>
    intro x i hn hi hx h
    refine Ev.step (fun k => rfl) ?_
    simp only [laws_toByteS.l0, show ¬ ((i : Int) < (l.length : Int)) by omega, if_false]
    exact Ev_now (prefix_all hx (fun j hj => h j (by omega)))
  | succ n ih =>
    intro x i hn hi hx h
    have hil : i < l.length := by omega
    have H := ih (x.set i (rd l (i : Int))) (i + 1) (by omega) (by omega) (by rw [List.length_set]; exact hx) (set_prefix hx (rd_get l hil) h)
    refine Ev.step (fun k => rfl) ?_
    simp only [laws_toByteS.l0, show ((i : Int) < (l.length : Int)) by omega, show (0 : Int) ≤ (i : Int) by omega, show ((i : Int) < (x.length : Int)) by omega, if_true, Int.toNat_natCast, next64 (show i < 4611686018427387904 by omega)]
    exact H
theorem toByteS_ev (l : List Int) (hl : l.length ≤ 281474976710656) : Ev (fun k => laws_toByteS.f k l) l := by
  simp only [laws_toByteS.f, show (0 : Int) ≤ (l.length : Int) by omega, if_true, Int.toNat_natCast, hl]
  exact toByteS_loop l hl l.length _ 0 (by omega) (by omega) (by simp) (fun j hj => by omega)
theorem eqByteS_loop (l : List Int) (hl : l.length ≤ 281474976710656) (n : Nat) : ∀ (i : Nat), l.length - i = n → i ≤ l.length → Ev (fun k => laws_eqByteS.l0 k l l (i : Int)) true := by
  induction n with
  | zero =>
    intro i hn hi
    refine Ev.step (fun k => rfl) ?_
    simp only [laws_eqByteS.l0, show ¬ ((i : Int) < (l.length : Int)) by omega, if_false]
    exact Ev.now _
  | succ n ih =>
    intro i hn hi
    have H := ih (i + 1) (by omega) (by omega)
    refine Ev.step (fun k => rfl) ?_
    simp only [laws_eqByteS.l0, show ((i : Int) < (l.length : Int)) by omega, show (0 : Int) ≤ (i : Int) by omega, if_true, next64 (show i < 4611686018427387904 by omega)]
    exact H
theorem eqByteS_ev (l : List Int) (hl : l.length ≤ 281474976710656) : Ev (fun k => laws_eqByteS.f k l l) true := by
  simp only [laws_eqByteS.f, if_true]
  exact eqByteS_loop l hl l.length 0 (by omega) (by omega)
theorem rdR_some {l : List S105} {i : Nat} {v : S105} (h : l[i]? = some v) : rd_T105 l (i : Int) = v := by
  unfold rd_T105; rw [Int.toNat_natCast, List.getD_eq_getElem?_getD, h]; rfl
theorem rdR_get (l : List S105) {i : Nat} (h : i < l.length) : l[i]? = some (rd_T105 l (i : Int)) := by
  have e := List.getElem?_eq_getElem h
  rw [rdR_some e]; exact e
theorem rdW_some {l : List S107} {i : Nat} {v : S107} (h : l[i]? = some v) : rd_T107 l (i : Int) = v := by
  unfold rd_T107; rw [Int.toNat_natCast, List.getD_eq_getElem?_getD, h]; rfl
theorem rdW_get (l : List S107) {i : Nat} (h : i < l.length) : l[i]? = some (rd_T107 l (i : Int)) := by
  have e := List.getElem?_eq_getElem h
  rw [rdW_some e]; exact e
/-- A range of the laws' package, in the program's. -/
def conv (x : S107) : S105 := ⟨x.f0, x.f1⟩
theorem szRangeS_at (l : List S107) (m : Int) (hl : l.length ≤ maxLen) (hm : 0 ≤ m ∧ m ≤ 1048576) : (m < l.length ∧ laws_szRangeS.f l m = some (-1)) ∨ (l.length ≤ m ∧ laws_szRangeS.f l m = some (m - l.length)) := by
  unfold maxLen at hl
  unfold laws_szRangeS.f
  rw [w64 (by omega) (by omega)]
  by_cases h : m - (l.length : Int) < 0
  · rw [if_pos h]; exact .inl ⟨by omega, rfl⟩
  · rw [if_neg h]; exact .inr ⟨by omega, rfl⟩
theorem toRangeS_loop (l : List S107) (hl : l.length ≤ 1048576) (n : Nat) : ∀ (x : List S105) (i : Nat), l.length - i = n → i ≤ l.length → x.length = l.length → (∀ j, j < i → x[j]? = (l.map conv)[j]?) → Ev (fun k => laws_toRangeS.l0 k l x (i : Int)) (l.map conv) := by
  induction n with
  | zero =>
    intro x i hn hi hx h
    refine Ev.step (fun k => rfl) ?_
    simp only [laws_toRangeS.l0, show ¬ ((i : Int) < (l.length : Int)) by omega, if_false]
    exact Ev_now (prefix_all (by rw [List.length_map]; exact hx) (fun j hj => h j (by rw [List.length_map] at hj; omega)))
  | succ n ih =>
    intro x i hn hi hx h
    have hil : i < l.length := by omega
    have H := ih (x.set i (conv (rd_T107 l (i : Int)))) (i + 1) (by omega) (by omega) (by rw [List.length_set]; exact hx) (set_prefix (by rw [List.length_map]; exact hx) (by rw [List.getElem?_map, rdW_get l hil]; rfl) h)
    refine Ev.step (fun k => rfl) ?_
    simp only [laws_toRangeS.l0, laws_toRange.f, Option.bind_some, show ((i : Int) < (l.length : Int)) by omega, show (0 : Int) ≤ (i : Int) by omega, show ((i : Int) < (x.length : Int)) by omega, if_true, Int.toNat_natCast, next64 (show i < 4611686018427387904 by omega)]
    exact H
theorem toRangeS_ev (l : List S107) (hl : l.length ≤ 1048576) : Ev (fun k => laws_toRangeS.f k l) (l.map conv) := by
  simp only [laws_toRangeS.f, show (0 : Int) ≤ (l.length : Int) by omega, if_true, Int.toNat_natCast, show l.length ≤ 17592186044416 by omega]
  exact toRangeS_loop l hl l.length _ 0 (by omega) (by omega) (by simp) (fun j hj => by omega)
theorem eqRangeS_loop (l : List S105) (hl : l.length ≤ 281474976710656) (n : Nat) : ∀ (i : Nat), l.length - i = n → i ≤ l.length → Ev (fun k => laws_eqRangeS.l0 k l l (i : Int)) true := by
  induction n with
  | zero =>
    intro i hn hi
    refine Ev.step (fun k => rfl) ?_
    simp only [laws_eqRangeS.l0, show ¬ ((i : Int) < (l.length : Int)) by omega, if_false]
    exact Ev.now _
  | succ n ih =>
    intro i hn hi
    have H := ih (i + 1) (by omega) (by omega)
    refine Ev.step (fun k => rfl) ?_
    simp only [laws_eqRangeS.l0, laws_eqRange.f, Option.bind_some, show ((i : Int) < (l.length : Int)) by omega, show (0 : Int) ≤ (i : Int) by omega, if_true, next64 (show i < 4611686018427387904 by omega)]
    exact H
theorem eqRangeS_ev (l : List S105) (hl : l.length ≤ 281474976710656) : Ev (fun k => laws_eqRangeS.f k l l) true := by
  simp only [laws_eqRangeS.f, if_true]
  exact eqRangeS_loop l hl l.length 0 (by omega) (by omega)
/-- Range number j of a list is right, and lies behind the one ahead of it. -/
def Good (l : List S105) (j : Nat) : Prop :=
  0 ≤ (rd_T105 l (j : Int)).f0 ∧ (rd_T105 l (j : Int)).f0 ≤ (rd_T105 l (j : Int)).f1 ∧ (rd_T105 l (j : Int)).f1 ≤ 4611686018427387903 ∧ (0 < j → wrap64 ((rd_T105 l ((j : Int) - 1)).f1 + 1) < (rd_T105 l (j : Int)).f0)
theorem inVar_eq (a : Int) : impl_inVar.f a = some (decide (0 ≤ a ∧ a ≤ 4611686018427387903)) := by
  unfold impl_inVar.f
  by_cases h : a ≥ 0
  · rw [if_pos h]; exact congrArg some (by rw [decide_eq_decide]; omega)
  · rw [if_neg h]; exact congrArg some (decide_eq_false (by omega)).symm
theorem ok_loop (l : List S105) (hl : l.length ≤ 1048576) (n : Nat) : ∀ i : Nat, l.length - i = n → i ≤ l.length →
    ∃ b, Ev (fun k => spec_l05RangesOK.l0 k l (i : Int)) b ∧ Ev (fun k => impl_rangesOK.l0 k l l (l.length : Int) (i : Int)) b ∧ (b = true → ∀ j, i ≤ j → j < l.length → Good l j) := by
  induction n with
  | zero =>
    intro i hn hi
    refine ⟨true, ?_, ?_, fun _ j h1 h2 => by omega⟩
    · refine Ev.step (fun k => rfl) ?_
      simp only [spec_l05RangesOK.l0, show ¬ ((i : Int) < (l.length : Int)) by omega, if_false]
      exact Ev.now _
    · refine Ev.step (fun k => rfl) ?_
      simp only [impl_rangesOK.l0, show ¬ ((i : Int) < (l.length : Int)) by omega, if_false]
      exact Ev.now _
  | succ n ih =>
    intro i hn hi
    have bad : ∀ (h : ¬ Good l i), Ev (fun k => spec_l05RangesOK.l0 k l (i : Int)) false ∧ Ev (fun k => impl_rangesOK.l0 k l l (l.length : Int) (i : Int)) false → ∃ b, Ev (fun k => spec_l05RangesOK.l0 k l (i : Int)) b ∧ Ev (fun k => impl_rangesOK.l0 k l l (l.length : Int) (i : Int)) b ∧ (b = true → ∀ j, i ≤ j → j < l.length → Good l j) :=
      fun _ h => ⟨false, h.1, h.2, fun h => by cases h⟩
    obtain ⟨b, hs, hi', hb⟩ := ih (i + 1) (by omega) (by omega)
    by_cases c1 : 0 ≤ (rd_T105 l (i : Int)).f0 ∧ (rd_T105 l (i : Int)).f0 ≤ (rd_T105 l (i : Int)).f1 ∧ (rd_T105 l (i : Int)).f1 ≤ 4611686018427387903
    · by_cases c2 : 0 < i
      · by_cases c3 : (rd_T105 l (i : Int)).f0 ≤ wrap64 ((rd_T105 l ((i : Int) - 1)).f1 + 1)
        · refine bad (fun h => by have := h.2.2.2 c2; omega) ⟨?_, ?_⟩
          · refine Ev.step (fun k => rfl) ?_
            simp only [spec_l05RangesOK.l0, show ((i : Int) < (l.length : Int)) by omega, show (0 : Int) ≤ (i : Int) by omega, show ¬ ((rd_T105 l (i : Int)).f0 < 0) by omega, show ¬ ((rd_T105 l (i : Int)).f1 > 4611686018427387903) by omega, show ¬ ((rd_T105 l (i : Int)).f0 > (rd_T105 l (i : Int)).f1) by omega, show (i : Int) > 0 by omega, w64 (x := (i : Int) - 1) (by omega) (by omega), show (0 : Int) ≤ (i : Int) - 1 by omega, show (i : Int) - 1 < (l.length : Int) by omega, if_true, if_false, c3]
            exact Ev.now _
          · refine Ev.step (fun k => rfl) ?_
            simp only [impl_rangesOK.l0, inVar_eq, Option.bind_some, show ((i : Int) < (l.length : Int)) by omega, show (0 : Int) ≤ (i : Int) by omega, show (0 ≤ (rd_T105 l (i : Int)).f0 ∧ (rd_T105 l (i : Int)).f0 ≤ 4611686018427387903) by omega, show (0 ≤ (rd_T105 l (i : Int)).f1 ∧ (rd_T105 l (i : Int)).f1 ≤ 4611686018427387903) by omega, show ¬ ((rd_T105 l (i : Int)).f0 > (rd_T105 l (i : Int)).f1) by omega, and_self, decide_true, show (i : Int) > 0 by omega, w64 (x := (i : Int) - 1) (by omega) (by omega), show (0 : Int) ≤ (i : Int) - 1 by omega, show (i : Int) - 1 < (l.length : Int) by omega, if_true, if_false, c3]
            exact Ev.now _
        · refine ⟨b, ?_, ?_, fun h j h1 h2 => ?_⟩
          · refine Ev.step (fun k => rfl) ?_
            simp only [spec_l05RangesOK.l0, show ((i : Int) < (l.length : Int)) by omega, show (0 : Int) ≤ (i : Int) by omega, show ¬ ((rd_T105 l (i : Int)).f0 < 0) by omega, show ¬ ((rd_T105 l (i : Int)).f1 > 4611686018427387903) by omega, show ¬ ((rd_T105 l (i : Int)).f0 > (rd_T105 l (i : Int)).f1) by omega, show (i : Int) > 0 by omega, w64 (x := (i : Int) - 1) (by omega) (by omega), show (0 : Int) ≤ (i : Int) - 1 by omega, show (i : Int) - 1 < (l.length : Int) by omega, if_true, if_false, c3, next64 (show i < 4611686018427387904 by omega)]
            exact hs
          · refine Ev.step (fun k => rfl) ?_
            simp only [impl_rangesOK.l0, inVar_eq, Option.bind_some, show ((i : Int) < (l.length : Int)) by omega, show (0 : Int) ≤ (i : Int) by omega, show (0 ≤ (rd_T105 l (i : Int)).f0 ∧ (rd_T105 l (i : Int)).f0 ≤ 4611686018427387903) by omega, show (0 ≤ (rd_T105 l (i : Int)).f1 ∧ (rd_T105 l (i : Int)).f1 ≤ 4611686018427387903) by omega, show ¬ ((rd_T105 l (i : Int)).f0 > (rd_T105 l (i : Int)).f1) by omega, and_self, decide_true, show (i : Int) > 0 by omega, w64 (x := (i : Int) - 1) (by omega) (by omega), show (0 : Int) ≤ (i : Int) - 1 by omega, show (i : Int) - 1 < (l.length : Int) by omega, if_true, if_false, c3, next64 (show i < 4611686018427387904 by omega)]
            exact hi'
          · by_cases e : j = i
            · subst e; exact ⟨c1.1, c1.2.1, c1.2.2, fun _ => by omega⟩
            · exact hb h j (by omega) h2
      · refine ⟨b, ?_, ?_, fun h j h1 h2 => ?_⟩
        · refine Ev.step (fun k => rfl) ?_
          simp only [spec_l05RangesOK.l0, show ((i : Int) < (l.length : Int)) by omega, show (0 : Int) ≤ (i : Int) by omega, show ¬ ((rd_T105 l (i : Int)).f0 < 0) by omega, show ¬ ((rd_T105 l (i : Int)).f1 > 4611686018427387903) by omega, show ¬ ((rd_T105 l (i : Int)).f0 > (rd_T105 l (i : Int)).f1) by omega, show ¬ ((i : Int) > 0) by omega, if_true, if_false, next64 (show i < 4611686018427387904 by omega)]
          exact hs
        · refine Ev.step (fun k => rfl) ?_
          simp only [impl_rangesOK.l0, inVar_eq, Option.bind_some, show ((i : Int) < (l.length : Int)) by omega, show (0 : Int) ≤ (i : Int) by omega, show (0 ≤ (rd_T105 l (i : Int)).f0 ∧ (rd_T105 l (i : Int)).f0 ≤ 4611686018427387903) by omega, show (0 ≤ (rd_T105 l (i : Int)).f1 ∧ (rd_T105 l (i : Int)).f1 ≤ 4611686018427387903) by omega, show ¬ ((rd_T105 l (i : Int)).f0 > (rd_T105 l (i : Int)).f1) by omega, and_self, decide_true, show ¬ ((i : Int) > 0) by omega, if_true, if_false, next64 (show i < 4611686018427387904 by omega)]
          exact hi'
        · by_cases e : j = i
          · subst e; exact ⟨c1.1, c1.2.1, c1.2.2, fun h => by omega⟩
          · exact hb h j (by omega) h2
    · refine bad (fun h => c1 ⟨h.1, h.2.1, h.2.2.1⟩) ⟨?_, ?_⟩
      · refine Ev.step (fun k => rfl) ?_
        simp only [spec_l05RangesOK.l0, show ((i : Int) < (l.length : Int)) by omega, show (0 : Int) ≤ (i : Int) by omega, if_true]
        refine Ev_ite (fun _ => Ev.now _) (fun d1 => ?_)
        refine Ev_ite (fun _ => Ev.now _) (fun d2 => ?_)
        refine Ev_ite (fun _ => Ev.now _) (fun d3 => ?_)
        omega
      · refine Ev.step (fun k => rfl) ?_
        simp only [impl_rangesOK.l0, inVar_eq, Option.bind_some, show ((i : Int) < (l.length : Int)) by omega, show (0 : Int) ≤ (i : Int) by omega, if_true, decide_eq_true_eq]
        refine Ev_ite (fun _ => Ev.now _) (fun d1 => ?_)
        refine Ev_ite (fun d2 => ?_) (fun _ => Ev.now _)
        refine Ev_ite (fun d3 => ?_) (fun _ => Ev.now _)
        omega
/-- Both tell the same of a list; where they say yes, it is short and each range is right. -/
theorem ok_both (l : List S105) (hl : l.length ≤ 1048576) : ∃ b, Ev (fun k => spec_l05RangesOK.f k l) b ∧ Ev (fun k => impl_rangesOK.f k l) b ∧ (b = true → l.length ≤ 64 ∧ ∀ j, j < l.length → Good l j) := by
  simp only [spec_l05RangesOK.f, impl_rangesOK.f]
  by_cases h : (l.length : Int) > 64
  · simp only [h, if_true]; exact ⟨_, Ev.now _, Ev.now _, fun h => by cases h⟩
  · simp only [h, if_false]
    obtain ⟨b, hs, hi, hb⟩ := ok_loop l hl l.length 0 (by omega) (by omega)
    exact ⟨b, hs, hi, fun h => ⟨by omega, fun j hj => hb h j (by omega) hj⟩⟩
/-- The kinds. -/
def Known (a : Int) : Prop := a = 0 ∨ a = 1 ∨ a = 2 ∨ a = 4 ∨ a = 5 ∨ a = 6 ∨ a = 7 ∨ a = 8 ∨ a = 16 ∨ a = 17 ∨ a = 18 ∨ a = 20 ∨ a = 21 ∨ a = 22 ∨ a = 24 ∨ a = 25 ∨ a = 26 ∨ a = 27 ∨ a = 28 ∨ a = 29 ∨ a = 30 ∨ a = 48
theorem kind_unknown (a : Int) (h : ¬ Known a) : (∃ u, Ev (fun k => spec_l05Kind.f k a) u ∧ u.1 = false) ∧ shK a = false := by
  unfold Known at h
  simp only [not_or] at h
  obtain ⟨h0, h1, h2, h4, h5, h6, h7, h8, h16, h17, h18, h20, h21, h22, h24, h25, h26, h27, h28, h29, h30, h48⟩ := h
  have e0 : (a == 0) = false := beq_eq_false_iff_ne.mpr h0
  have e1 : (a == 1) = false := beq_eq_false_iff_ne.mpr h1
  have e2 : (a == 2) = false := beq_eq_false_iff_ne.mpr h2
  have e4 : (a == 4) = false := beq_eq_false_iff_ne.mpr h4
  have e5 : (a == 5) = false := beq_eq_false_iff_ne.mpr h5
  have e6 : (a == 6) = false := beq_eq_false_iff_ne.mpr h6
  have e7 : (a == 7) = false := beq_eq_false_iff_ne.mpr h7
  have e8 : (a == 8) = false := beq_eq_false_iff_ne.mpr h8
  have e16 : (a == 16) = false := beq_eq_false_iff_ne.mpr h16
  have e17 : (a == 17) = false := beq_eq_false_iff_ne.mpr h17
  have e18 : (a == 18) = false := beq_eq_false_iff_ne.mpr h18
  have e20 : (a == 20) = false := beq_eq_false_iff_ne.mpr h20
  have e21 : (a == 21) = false := beq_eq_false_iff_ne.mpr h21
  have e22 : (a == 22) = false := beq_eq_false_iff_ne.mpr h22
  have e24 : (a == 24) = false := beq_eq_false_iff_ne.mpr h24
  have e25 : (a == 25) = false := beq_eq_false_iff_ne.mpr h25
  have e26 : (a == 26) = false := beq_eq_false_iff_ne.mpr h26
  have e27 : (a == 27) = false := beq_eq_false_iff_ne.mpr h27
  have e28 : (a == 28) = false := beq_eq_false_iff_ne.mpr h28
  have e29 : (a == 29) = false := beq_eq_false_iff_ne.mpr h29
  have e30 : (a == 30) = false := beq_eq_false_iff_ne.mpr h30
  have e48 : (a == 48) = false := beq_eq_false_iff_ne.mpr h48
  refine ⟨⟨(false, false, false, false, false, false, 0, 0, 0), ?_, rfl⟩, ?_⟩
  · simp only [spec_l05Kind.f, h1, if_false, e30]
    refine Ev.step (fun k => rfl) ?_
    simp only [spec_l05Kind.j0, Bool.false_eq_true, if_false, h0, h16, h20, e25]
    refine Ev.step (fun k => rfl) ?_
    simp only [spec_l05Kind.j1, Bool.false_eq_true, if_false, h2, h4, h5, h17, h21, h18, e22]
    refine Ev.step (fun k => rfl) ?_
    simp only [spec_l05Kind.j2, Bool.false_eq_true, if_false, h6, h7, h8, h24, h26, e27]
    refine Ev.step (fun k => rfl) ?_
    simp only [spec_l05Kind.j3, Bool.false_eq_true, if_false, h28, h29, h48]
    exact Ev.now _
  · have g : ∀ c : Int, a ≠ c → decide (c = a) = false := fun c hc => decide_eq_false (fun e => hc e.symm)
    simp only [shK, shTab, List.any_cons, List.any_nil, g _ h0, g _ h1, g _ h2, g _ h4, g _ h5, g _ h6, g _ h7, g _ h8, g _ h16, g _ h17, g _ h18, g _ h20, g _ h21, g _ h22, g _ h24, g _ h25, g _ h26, g _ h27, g _ h28, g _ h29, g _ h30, g _ h48, Bool.or_false]
theorem shape_ok (a : Int) (w : (Lit.int .i64 a).wf = true) : impl_shapeOf.f a = some ((shV a).1, (shV a).2.1, (shV a).2.2.1, (shV a).2.2.2.1, (shV a).2.2.2.2.1, (shV a).2.2.2.2.2, shK a) := by
  unfold impl_shapeOf.f
  rw [if_pos w]
theorem szB (l : List Int) (a : Int) (h0 : 0 ≤ a) (h1 : a ≤ 1048576) (hl : l.length ≤ 9223372036854775807) : (laws_szByteS.f l a = some (-1) ∧ a < l.length) ∨ (laws_szByteS.f l a = some (a - l.length) ∧ l.length ≤ a) := by
  simp only [laws_szByteS.f, w64 (x := a - (l.length : Int)) (by omega) (by omega)]
  by_cases c : a - (l.length : Int) < 0
  · rw [if_pos c]; exact .inl ⟨rfl, by omega⟩
  · rw [if_neg c]; exact .inr ⟨rfl, by omega⟩
theorem markByteS_loop (m : Int) (N : Nat) (hm : 0 ≤ m) (hN : m + N ≤ 4611686018427387903) (n : Nat) : ∀ (x : List Int) (i : Nat), N - i = n → i ≤ N → x.length = N → (∀ j, j < i → x[j]? = (marks m N)[j]?) → Ev (fun k => laws_markByteS.l0 k x (m + i) (i : Int)) (m + N, marks m N) := by
  induction n with
  | zero =>
    intro x i hn hi hx h
    obtain rfl : i = N := by omega
    refine Ev.step (fun k => rfl) ?_
    simp only [laws_markByteS.l0, show ¬ ((i : Int) < (x.length : Int)) by omega, if_false]
    exact Ev_now (by rw [prefix_all (l := marks m i) (by rw [marks_length, hx]) (fun j hj => h j (by rw [marks_length] at hj; exact hj))])
  | succ n ih =>
    intro x i hn hi hx h
    have H := ih (x.set i ((m + i) % 256)) (i + 1) (by omega) (by omega) (by rw [List.length_set]; exact hx) (set_prefix (by rw [marks_length, hx]) (marks_get m (by omega)) h)
    rw [show m + ((i + 1 : Nat) : Int) = m + i + 1 by omega] at H
    refine Ev.step (fun k => rfl) ?_
    simp only [laws_markByteS.l0, show ((i : Int) < (x.length : Int)) by omega, show (0 : Int) ≤ (i : Int) by omega, if_true, Int.toNat_natCast, next64 (show i < 4611686018427387904 by omega), w64 (x := m + i + 1) (by omega) (by omega)]
    exact H
theorem markByteS_ev (x : List Int) (m : Int) (hm : 0 ≤ m) (hN : m + x.length ≤ 4611686018427387903) : Ev (fun k => laws_markByteS.f k x m) (m + x.length, marks m x.length) := by
  have H := markByteS_loop m x.length hm hN x.length x 0 (by omega) (by omega) rfl (fun j hj => by omega)
  rw [show m + ((0 : Nat) : Int) = m by omega] at H
  simp only [laws_markByteS.f]
  exact H
theorem heldByteS_loop (m : Int) (N : Nat) (hm : 0 ≤ m) (hN : m + N ≤ 4611686018427387903) (n : Nat) : ∀ (i : Nat), N - i = n → i ≤ N → Ev (fun k => laws_heldByteS.l0 k (marks m N) (m + i) (i : Int)) (m + N) := by
  induction n with
  | zero =>
    intro i hn hi
    obtain rfl : i = N := by omega
    refine Ev.step (fun k => rfl) ?_
    simp only [laws_heldByteS.l0, marks_length, show ¬ ((i : Int) < (i : Int)) by omega, if_false]
    exact Ev.now _
  | succ n ih =>
    intro i hn hi
    have H := ih (i + 1) (by omega) (by omega)
    rw [show m + ((i + 1 : Nat) : Int) = m + i + 1 by omega] at H
    refine Ev.step (fun k => rfl) ?_
    simp only [laws_heldByteS.l0, marks_length, show ((i : Int) < (N : Int)) by omega, show (0 : Int) ≤ (i : Int) by omega, rd_some (marks_get m (show i < N by omega)), if_true, next64 (show i < 4611686018427387904 by omega), w64 (x := m + i + 1) (by omega) (by omega)]
    exact H
theorem heldByteS_ev (n : Nat) (m : Int) (hm : 0 ≤ m) (hN : m + n ≤ 4611686018427387903) : Ev (fun k => laws_heldByteS.f k (marks m n) m) (m + n) := by
  have H := heldByteS_loop m n hm hN n 0 (by omega) (by omega)
  rw [show m + ((0 : Nat) : Int) = m by omega] at H
  simp only [laws_heldByteS.f]
  exact H
/-- What a marking leaves in ranges, numbered from m on. -/
def marksR (m : Int) (n : Nat) : List S105 := (List.range n).map fun j : Nat => ⟨m + 2 * (j : Int), m + 2 * (j : Int) + 1⟩
theorem marksR_length (m : Int) (n : Nat) : (marksR m n).length = n := by simp [marksR]
theorem marksR_get (m : Int) {n i : Nat} (h : i < n) : (marksR m n)[i]? = some ⟨m + 2 * i, m + 2 * i + 1⟩ := by simp [marksR, h]
theorem markRangeS_loop (m : Int) (N : Nat) (hm : 0 ≤ m) (hN : m + 2 * N ≤ 4611686018427387903) (n : Nat) : ∀ (x : List S105) (i : Nat), N - i = n → i ≤ N → x.length = N → (∀ j, j < i → x[j]? = (marksR m N)[j]?) → Ev (fun k => laws_markRangeS.l0 k x (m + 2 * i) (i : Int)) (m + 2 * N, marksR m N) := by
  induction n with
  | zero =>
    intro x i hn hi hx h
    obtain rfl : i = N := by omega
    refine Ev.step (fun k => rfl) ?_
    simp only [laws_markRangeS.l0, show ¬ ((i : Int) < (x.length : Int)) by omega, if_false]
    exact Ev_now (by rw [prefix_all (l := marksR m i) (by rw [marksR_length, hx]) (fun j hj => h j (by rw [marksR_length] at hj; exact hj))])
  | succ n ih =>
    intro x i hn hi hx h
    have H := ih (x.set i ⟨m + 2 * i, m + 2 * i + 1⟩) (i + 1) (by omega) (by omega) (by rw [List.length_set]; exact hx) (set_prefix (by rw [marksR_length, hx]) (marksR_get m (by omega)) h)
    rw [show m + 2 * ((i + 1 : Nat) : Int) = m + 2 * i + 1 + 1 by omega] at H
    refine Ev.step (fun k => rfl) ?_
    simp only [laws_markRangeS.l0, Option.bind_some, show ((i : Int) < (x.length : Int)) by omega, show (0 : Int) ≤ (i : Int) by omega, if_true, Int.toNat_natCast, next64 (show i < 4611686018427387904 by omega), w64 (x := m + 2 * i + 1) (by omega) (by omega), w64 (x := m + 2 * i + 1 + 1) (by omega) (by omega), List.set_set]
    rw [rdR_some (List.getElem?_set_self (show i < x.length by omega))]
    exact H
theorem markRangeS_ev (x : List S105) (m : Int) (hm : 0 ≤ m) (hN : m + 2 * x.length ≤ 4611686018427387903) : Ev (fun k => laws_markRangeS.f k x m) (m + 2 * x.length, marksR m x.length) := by
  have H := markRangeS_loop m x.length hm hN x.length x 0 (by omega) (by omega) rfl (fun j hj => by omega)
  rw [show m + 2 * ((0 : Nat) : Int) = m by omega] at H
  simp only [laws_markRangeS.f]
  exact H
theorem digits_ev (n : Nat) : ∀ v : Int, n ≤ 64 → 0 ≤ v → v ≤ 9223372036854775807 → Ev (fun k => spec_l01Digits.f k v (n : Int)) (dg v n) := by
  induction n with
  | zero =>
    intro v hn h0 h1
    refine Ev.step (fun k => rfl) ?_
    simp only [spec_l01Digits.f, show ((0 : Nat) : Int) = 0 from rfl, if_true]
    exact Ev.now _
  | succ n ih =>
    intro v hn h0 h1
    have H := ih (v / 256) (by omega) (by omega) (by omega)
    refine Ev.step (fun k => rfl) ?_
    simp only [spec_l01Digits.f, show ¬ (((n + 1 : Nat) : Int) = 0) by omega, if_false, tdiv_nn h0, tmod_nn h0, w64 (x := v / 256) (by omega) (by omega), show ((n + 1 : Nat) : Int) - 1 = (n : Int) by omega, w64 (x := (n : Int)) (by omega) (by omega)]
    refine Ev.bind H ?_
    simp only [dg_length, show n < 140737488355328 by omega, if_true]
    exact Ev_now (by rw [dg_snoc v h0 n, Int.emod_emod])
theorem shr_digit (v : Int) (m : Nat) (hm : m ≤ 7) (h0 : 0 ≤ v) (h1 : v ≤ 9223372036854775807) : (shr .u64 (IntKind.u64.wrap v) (wrap64 (8 * (m : Int)))) % 256 = v / 256 ^ m % 256 := by
  have hp : (2 : Int) ^ (8 * m) = 256 ^ m := by rw [Int.pow_mul]; rfl
  have e : min (8 * (m : Int)).toNat IntKind.u64.bits = 8 * m := by simp only [IntKind.bits]; omega
  unfold shr
  rw [wraps_u64 v h0 (by omega), w64 (by omega) (by omega), e, hp]
theorem fixed_loop (v : Int) (h0 : 0 ≤ v) (h1 : v ≤ 9223372036854775807) (m : Nat) : ∀ l : List Int, m ≤ 8 → l.length + m < 140737488355328 → Ev (fun k => impl_fixed.l0 k l v ((m : Int) - 1)) (l ++ dg v m) := by
  induction m with
  | zero =>
    intro l hm hl
    refine Ev.step (fun k => rfl) ?_
    simp only [impl_fixed.l0, show ¬ (((0 : Nat) : Int) - 1 ≥ 0) by omega, if_false]
    exact Ev_now (by simp [dg])
  | succ m ih =>
    intro l hm hl
    have e := shr_digit v m (by omega) h0 h1
    refine Ev.step (fun k => rfl) ?_
    simp only [impl_fixed.l0, show ((m + 1 : Nat) : Int) - 1 = (m : Int) by omega, show (m : Int) ≥ 0 by omega, show (0 : Int) ≤ wrap64 (8 * (m : Int)) by rw [w64 (by omega) (by omega)]; omega, if_true, show l.length < 140737488355328 by omega, e, w64 (x := (m : Int) - 1) (by omega) (by omega)]
    exact Ev_cast (ih (l ++ [v / 256 ^ m % 256]) (by omega) (by simp; omega)) (by simp [dg])
theorem fixed_ev (v : Int) (n : Nat) (l : List Int) (h0 : 0 ≤ v) (h1 : v ≤ 9223372036854775807) (hn : n ≤ 8) (hl : l.length + 8 < 140737488355328) : Ev (fun k => impl_fixed.f k l v (n : Int)) (l ++ dg v n) := by
  simp only [impl_fixed.f, w64 (x := (n : Int) - 1) (by omega) (by omega)]
  exact fixed_loop v h0 h1 n l hn (by omega)
/-- How many bytes a number takes. -/
def vl (v : Int) : Nat := if v < 64 then 1 else if v < 16384 then 2 else if v < 1073741824 then 4 else 8
theorem vl_cases (v : Int) (h1 : v ≤ 4611686018427387903) : (vl v = 1 ∧ v < 64) ∨ (vl v = 2 ∧ v < 16384) ∨ (vl v = 4 ∧ v < 1073741824) ∨ (vl v = 8 ∧ v < 4611686018427387904) := by
  unfold vl
  by_cases a : v < 64
  · rw [if_pos a]; exact .inl ⟨rfl, a⟩
  by_cases b : v < 16384
  · rw [if_neg a, if_pos b]; exact .inr (.inl ⟨rfl, b⟩)
  by_cases c : v < 1073741824
  · rw [if_neg a, if_neg b, if_pos c]; exact .inr (.inr (.inl ⟨rfl, c⟩))
  · rw [if_neg a, if_neg b, if_neg c]; exact .inr (.inr (.inr ⟨rfl, by omega⟩))
theorem implVarLen (v : Int) (h0 : 0 ≤ v) (h1 : v ≤ 4611686018427387903) : impl_VarLen.f v = some (vl v : Int) := by
  unfold vl
  simp only [impl_VarLen.f, impl_inVar.f, show v ≥ 0 from h0, if_true, decide_eq_true h1, Option.bind_some]
  by_cases a : v < 64
  · simp only [a, if_true]; rfl
  by_cases b : v < 16384
  · simp only [a, b, if_true, if_false]; rfl
  by_cases c : v < 1073741824
  · simp only [a, b, c, if_true, if_false]; rfl
  · simp only [a, b, c, if_false]; rfl
/-- A number's bytes: as few as can be, the first one marked. -/
def pv (v : Int) : List Int := (v / 256 ^ (vl v - 1) % 256 + vmark (vl v)) :: dg v (vl v - 1)
theorem pv_length (v : Int) (h1 : v ≤ 4611686018427387903) : (pv v).length = vl v := by
  have := vl_cases v h1
  simp only [pv, List.length_cons, dg_length]
  omega
theorem pv_len (v : Int) (h1 : v ≤ 4611686018427387903) : 1 ≤ (pv v).length ∧ (pv v).length ≤ 8 := by
  rw [pv_length v h1]
  have := vl_cases v h1
  omega
theorem dg_vl (v : Int) (h1 : v ≤ 4611686018427387903) : dg v (vl v) = (v / 256 ^ (vl v - 1) % 256) :: dg v (vl v - 1) := by
  have h : vl v = (vl v - 1) + 1 := by have := vl_cases v h1; omega
  rw [h]; rfl
theorem top_small (v : Int) (h0 : 0 ≤ v) (h1 : v ≤ 4611686018427387903) : 0 ≤ v / 256 ^ (vl v - 1) % 256 ∧ v / 256 ^ (vl v - 1) % 256 < 64 := by
  rcases vl_cases v h1 with ⟨e, h⟩ | ⟨e, h⟩ | ⟨e, h⟩ | ⟨e, h⟩ <;> rw [e] <;> simp <;> omega
theorem bits_or_comm (k : IntKind) (a b : Int) : Go.bits .or k a b = Go.bits .or k b a := by
  show k.wrap ((BitVec.ofInt k.bits a ||| BitVec.ofInt k.bits b).toNat : Int) = k.wrap ((BitVec.ofInt k.bits b ||| BitVec.ofInt k.bits a).toNat : Int)
  rw [BitVec.or_comm]
theorem vmark_vl (v : Int) (h1 : v ≤ 4611686018427387903) : vmark (vl v) = 0 ∨ vmark (vl v) = 64 ∨ vmark (vl v) = 128 ∨ vmark (vl v) = 192 := by
  rcases vl_cases v h1 with ⟨e, h⟩ | ⟨e, h⟩ | ⟨e, h⟩ | ⟨e, h⟩ <;> rw [e] <;> decide
theorem or_mark (d m : Int) (h0 : 0 ≤ d) (h1 : d < 64) (hm : m = 0 ∨ m = 64 ∨ m = 128 ∨ m = 192) : Go.bits .or .u8 d m = d + m := by
  rw [bits_or_comm, bits_join .u8 8 (by decide) wraps_u8 6 m d (by omega) (by omega) (by omega) h0 (by omega) (by omega)]
  omega
theorem addVar_ev (l : List Int) (v : Int) (h0 : 0 ≤ v) (h1 : v ≤ 4611686018427387903) (hl : l.length + 16 < 140737488355328) : Ev (fun k => impl_addVar.f k l v) (l ++ pv v) := by
  have hv := vl_cases v h1
  have ht := top_small v h0 h1
  simp only [impl_addVar.f, implVarLen v h0 h1, Option.bind_some]
  refine Ev.bind (fixed_ev v (vl v) l h0 (by omega) (by omega) (by omega)) ?_
  rw [dg_vl v h1, if_pos (by omega), if_pos (by omega), if_pos (by omega), if_pos (by simp; omega), rd_some (show (l ++ (v / 256 ^ (vl v - 1) % 256) :: dg v (vl v - 1))[l.length]? = some (v / 256 ^ (vl v - 1) % 256) by simp), or_mark _ _ ht.1 ht.2 (vmark_vl v h1), Int.toNat_natCast]
  exact Ev_now (by simp [pv, List.set_append])
theorem specVarLen_ev (v : Int) (h0 : 0 ≤ v) (h1 : v ≤ 4611686018427387903) : Ev (fun k => spec_VarLen.f k v) (vl v : Int) := by
  unfold vl
  simp only [spec_VarLen.f, show ¬ v < 0 by omega, if_false, show decide (v > 4611686018427387903) = false from decide_eq_false (by omega)]
  refine Ev.step (fun k => rfl) ?_
  simp only [spec_VarLen.j0, Bool.false_eq_true, if_false]
  by_cases a : v < 64
  · simp only [a, show v ≤ 63 by omega, if_true]; exact Ev.now _
  by_cases b : v < 16384
  · simp only [a, b, show ¬ v ≤ 63 by omega, show v ≤ 16383 by omega, if_true, if_false]; exact Ev.now _
  by_cases c : v < 1073741824
  · simp only [a, b, c, show ¬ v ≤ 63 by omega, show ¬ v ≤ 16383 by omega, show v ≤ 1073741823 by omega, if_true, if_false]; exact Ev.now _
  · simp only [a, b, c, show ¬ v ≤ 63 by omega, show ¬ v ≤ 16383 by omega, show ¬ v ≤ 1073741823 by omega, if_false]; exact Ev.now _
theorem put_loop (b : List Int) (hb : 0 < b.length) (n : Int) (hn : n = 1 ∨ n = 2 ∨ n = 4 ∨ n = 8) : Ev (fun k => spec_PutVar.l0 k n b 0 1) (b.set 0 ((rd b 0 + vmark n) % 256), 0) := by
  have e0 : ∀ x : Int, Ev (fun k => spec_PutVar.l0 k n b x n) (b.set 0 ((rd b 0 + wrap64 (64 * x) % 256) % 256), 0) := by
    intro x
    refine Ev.step (fun k => rfl) ?_
    simp only [spec_PutVar.l0, show ¬ n < n by omega, if_false, show (0 : Int) < (b.length : Int) by omega, if_true]
    exact Ev.now _
  rcases hn with rfl | rfl | rfl | rfl
  · exact (show wrap64 (64 * 0) % 256 = vmark 1 by decide +kernel) ▸ e0 0
  · refine Ev.step (fun k => rfl) ?_
    simp only [spec_PutVar.l0, show (1 : Int) < 2 by decide, if_true, show wrap64 (0 + 1) = 1 by decide +kernel, show wrap64 (2 * 1) = 2 by decide +kernel]
    exact (show wrap64 (64 * 1) % 256 = vmark 2 by decide +kernel) ▸ e0 1
  · refine Ev.step (fun k => rfl) ?_
    simp only [spec_PutVar.l0, show (1 : Int) < 4 by decide, if_true, show wrap64 (0 + 1) = 1 by decide +kernel, show wrap64 (2 * 1) = 2 by decide +kernel]
    refine Ev.step (fun k => rfl) ?_
    simp only [spec_PutVar.l0, show (2 : Int) < 4 by decide, if_true, show wrap64 (1 + 1) = 2 by decide +kernel, show wrap64 (2 * 2) = 4 by decide +kernel]
    exact (show wrap64 (64 * 2) % 256 = vmark 4 by decide +kernel) ▸ e0 2
  · refine Ev.step (fun k => rfl) ?_
    simp only [spec_PutVar.l0, show (1 : Int) < 8 by decide, if_true, show wrap64 (0 + 1) = 1 by decide +kernel, show wrap64 (2 * 1) = 2 by decide +kernel]
    refine Ev.step (fun k => rfl) ?_
    simp only [spec_PutVar.l0, show (2 : Int) < 8 by decide, if_true, show wrap64 (1 + 1) = 2 by decide +kernel, show wrap64 (2 * 2) = 4 by decide +kernel]
    refine Ev.step (fun k => rfl) ?_
    simp only [spec_PutVar.l0, show (4 : Int) < 8 by decide, if_true, show wrap64 (2 + 1) = 3 by decide +kernel, show wrap64 (2 * 4) = 8 by decide +kernel]
    exact (show wrap64 (64 * 3) % 256 = vmark 8 by decide +kernel) ▸ e0 3
theorem specPutVar_ev (v : Int) (h0 : 0 ≤ v) (h1 : v ≤ 4611686018427387903) : Ev (fun k => spec_PutVar.f k v) (pv v, 0) := by
  have hv := vl_cases v h1
  have ht := top_small v h0 h1
  have hm := vmark_vl v h1
  simp only [spec_PutVar.f]
  refine Ev.bind (specVarLen_ev v h0 h1) ?_
  simp only [show ¬ ((vl v : Int) = 0) by omega, if_false]
  refine Ev.bind (digits_ev (vl v) v (by omega) h0 (by omega)) ?_
  refine Ev_cast (put_loop (dg v (vl v)) (by rw [dg_length]; omega) (vl v) (by omega)) ?_
  rw [dg_vl v h1]
  have e : rd ((v / 256 ^ (vl v - 1) % 256) :: dg v (vl v - 1)) 0 = v / 256 ^ (vl v - 1) % 256 := rfl
  rw [e, Int.emod_eq_of_lt (a := v / 256 ^ (vl v - 1) % 256 + vmark (vl v)) (by omega) (by omega)]
  rfl
theorem addCounted_ev (l m : List Int) (hl : l.length ≤ 1048576) (hm : m.length ≤ 1048576) : Ev (fun k => impl_addCounted.f k l m) (l ++ pv (m.length : Int) ++ m) := by
  have hp := pv_len (m.length : Int) (by omega)
  simp only [impl_addCounted.f]
  refine Ev.bind (addVar_ev l _ (by omega) (by omega) (by omega)) ?_
  rw [if_pos (by rw [List.length_append]; omega)]
  exact Ev.now _
theorem ex_ite {c : Prop} [Decidable c] {A B : Nat → Option Bool} {P : Bool → Prop} (h : c → ∃ r, Ev A r ∧ P r) (h' : ¬ c → ∃ r, Ev B r ∧ P r) : ∃ r, Ev (fun k => if c then A k else B k) r ∧ P r := by
  by_cases hc : c
  · simp only [hc, if_true]; exact h hc
  · simp only [hc, if_false]; exact h' hc
theorem ex_step {g f : Nat → Option Bool} {P : Bool → Prop} (e : ∀ k, g (k + 1) = f k) (h : ∃ r, Ev f r ∧ P r) : ∃ r, Ev g r ∧ P r := by
  obtain ⟨r, h1, h2⟩ := h
  exact ⟨r, Ev.step e h1, h2⟩
theorem ex_bind {α : Type} {g : Nat → Option α} {a : α} {f : Nat → α → Option Bool} {P : Bool → Prop} (hg : Ev g a) (h : ∃ r, Ev (fun k => f k a) r ∧ P r) : ∃ r, Ev (fun k => (g k).bind (f k)) r ∧ P r := by
  obtain ⟨r, h1, h2⟩ := h
  exact ⟨r, Ev.bind hg h1, h2⟩
theorem var_eq (a : Int) : spec_l05Var.f a = some (decide (0 ≤ a ∧ a ≤ 4611686018427387903)) := by
  unfold spec_l05Var.f
  by_cases h : a ≥ 0
  · rw [if_pos h]; exact congrArg some (by rw [decide_eq_decide]; omega)
  · rw [if_neg h]; exact congrArg some (decide_eq_false (by omega)).symm
/-- What makes a frame right: by its kind's table. -/
def okF (a A B C : Int) (f R : Bool) (x y z : Int) (u : Bool × Bool × Bool × Bool × Bool × Bool × Int × Int × Int) : Prop :=
  (0 ≤ A ∧ A ≤ 4611686018427387903) ∧ (0 ≤ B ∧ B ≤ 4611686018427387903) ∧ (0 ≤ C ∧ C ≤ 4611686018427387903) ∧
  (u.2.1 = true ∨ A = 0) ∧ (u.2.2.1 = true ∨ B = 0) ∧ (u.2.2.2.1 = true ∨ C = 0) ∧ (u.2.2.2.2.1 = true ∨ f = false) ∧ u.2.2.2.2.2.2.1 ≤ x ∧ x ≤ u.2.2.2.2.2.2.2.1 ∧ y = u.2.2.2.2.2.2.2.2 ∧
  (u.2.2.2.2.2.1 = true ↔ 0 < z) ∧ R = true ∧
  (a = 0 → 1 ≤ A ∧ A ≤ 1500) ∧ (a = 18 ∨ a = 22 → A ≤ 1152921504606846976 ∧ B ≤ 1) ∧ (a = 6 → A ≤ wrap64 (4611686018427387903 - x)) ∧ (a = 8 → B ≤ wrap64 (4611686018427387903 - x)) ∧ (a = 24 → B ≤ A)
theorem Ev_unique {α : Type} {g : Nat → Option α} {a b : α} (h : Ev g a) (h' : Ev g b) : a = b := by
  obtain ⟨n, hn⟩ := h
  obtain ⟨m, hm⟩ := h'
  have e1 := hn (n + m) (by omega)
  have e2 := hm (n + m) (by omega)
  rw [e1] at e2
  exact Option.some.inj e2
/-- What the reference and the program say of each kind. -/
def fkTab : List (Int × (Bool × Bool × Bool × Bool × Bool × Bool × Int × Int × Int) × (Bool × Bool × Bool × Bool × Bool × Bool)) :=
  [(0, (true, true, false, false, false, false, 0, 0, 0), (true, false, false, false, false, false)),
   (1, (true, false, false, false, false, false, 0, 0, 0), (false, false, false, false, false, false)),
   (2, (true, true, false, false, false, true, 0, 0, 0), (true, false, false, false, false, true)),
   (4, (true, true, true, true, false, false, 0, 0, 0), (true, true, false, false, false, false)),
   (5, (true, true, true, false, false, false, 0, 0, 0), (true, true, false, false, false, false)),
   (6, (true, true, false, false, false, false, 0, 1500, 0), (true, false, false, true, false, false)),
   (7, (true, false, false, false, false, false, 1, 64, 0), (false, false, false, true, false, false)),
   (8, (true, true, true, false, true, false, 0, 1500, 0), (true, true, true, true, false, false)),
   (16, (true, true, false, false, false, false, 0, 0, 0), (true, false, false, false, false, false)),
   (17, (true, true, true, false, false, false, 0, 0, 0), (true, true, false, false, false, false)),
   (18, (true, true, true, false, false, false, 0, 0, 0), (true, true, false, false, false, false)),
   (20, (true, true, false, false, false, false, 0, 0, 0), (true, false, false, false, false, false)),
   (21, (true, true, true, false, false, false, 0, 0, 0), (true, true, false, false, false, false)),
   (22, (true, true, true, false, false, false, 0, 0, 0), (true, true, false, false, false, false)),
   (24, (true, true, true, false, false, false, 1, 8, 8), (true, true, false, true, true, false)),
   (25, (true, true, false, false, false, false, 0, 0, 0), (true, false, false, false, false, false)),
   (26, (true, false, false, false, false, false, 8, 8, 0), (false, false, false, true, false, false)),
   (27, (true, false, false, false, false, false, 8, 8, 0), (false, false, false, true, false, false)),
   (28, (true, true, true, false, false, false, 0, 200, 0), (true, true, false, true, false, false)),
   (29, (true, true, false, false, false, false, 0, 200, 0), (true, false, false, true, false, false)),
   (30, (true, false, false, false, false, false, 0, 0, 0), (false, false, false, false, false, false)),
   (48, (true, false, false, false, false, false, 0, 1500, 0), (false, false, false, true, false, false))]
theorem fk_of (a : Int) (h : Known a) : ∃ u s, (a, u, s) ∈ fkTab := by
  unfold Known at h
  rcases h with rfl | rfl | rfl | rfl | rfl | rfl | rfl | rfl | rfl | rfl | rfl | rfl | rfl | rfl | rfl | rfl | rfl | rfl | rfl | rfl | rfl | rfl
  · exact ⟨_, _, List.Mem.head _⟩
  · exact ⟨_, _, .tail _ (List.Mem.head _)⟩
  · exact ⟨_, _, .tail _ (.tail _ (List.Mem.head _))⟩
  · exact ⟨_, _, .tail _ (.tail _ (.tail _ (List.Mem.head _)))⟩
  · exact ⟨_, _, .tail _ (.tail _ (.tail _ (.tail _ (List.Mem.head _))))⟩
  · exact ⟨_, _, .tail _ (.tail _ (.tail _ (.tail _ (.tail _ (List.Mem.head _)))))⟩
  · exact ⟨_, _, .tail _ (.tail _ (.tail _ (.tail _ (.tail _ (.tail _ (List.Mem.head _))))))⟩
  · exact ⟨_, _, .tail _ (.tail _ (.tail _ (.tail _ (.tail _ (.tail _ (.tail _ (List.Mem.head _)))))))⟩
  · exact ⟨_, _, .tail _ (.tail _ (.tail _ (.tail _ (.tail _ (.tail _ (.tail _ (.tail _ (List.Mem.head _))))))))⟩
  · exact ⟨_, _, .tail _ (.tail _ (.tail _ (.tail _ (.tail _ (.tail _ (.tail _ (.tail _ (.tail _ (List.Mem.head _)))))))))⟩
  · exact ⟨_, _, .tail _ (.tail _ (.tail _ (.tail _ (.tail _ (.tail _ (.tail _ (.tail _ (.tail _ (.tail _ (List.Mem.head _))))))))))⟩
  · exact ⟨_, _, .tail _ (.tail _ (.tail _ (.tail _ (.tail _ (.tail _ (.tail _ (.tail _ (.tail _ (.tail _ (.tail _ (List.Mem.head _)))))))))))⟩
  · exact ⟨_, _, .tail _ (.tail _ (.tail _ (.tail _ (.tail _ (.tail _ (.tail _ (.tail _ (.tail _ (.tail _ (.tail _ (.tail _ (List.Mem.head _))))))))))))⟩
  · exact ⟨_, _, .tail _ (.tail _ (.tail _ (.tail _ (.tail _ (.tail _ (.tail _ (.tail _ (.tail _ (.tail _ (.tail _ (.tail _ (.tail _ (List.Mem.head _)))))))))))))⟩
  · exact ⟨_, _, .tail _ (.tail _ (.tail _ (.tail _ (.tail _ (.tail _ (.tail _ (.tail _ (.tail _ (.tail _ (.tail _ (.tail _ (.tail _ (.tail _ (List.Mem.head _))))))))))))))⟩
  · exact ⟨_, _, .tail _ (.tail _ (.tail _ (.tail _ (.tail _ (.tail _ (.tail _ (.tail _ (.tail _ (.tail _ (.tail _ (.tail _ (.tail _ (.tail _ (.tail _ (List.Mem.head _)))))))))))))))⟩
  · exact ⟨_, _, .tail _ (.tail _ (.tail _ (.tail _ (.tail _ (.tail _ (.tail _ (.tail _ (.tail _ (.tail _ (.tail _ (.tail _ (.tail _ (.tail _ (.tail _ (.tail _ (List.Mem.head _))))))))))))))))⟩
  · exact ⟨_, _, .tail _ (.tail _ (.tail _ (.tail _ (.tail _ (.tail _ (.tail _ (.tail _ (.tail _ (.tail _ (.tail _ (.tail _ (.tail _ (.tail _ (.tail _ (.tail _ (.tail _ (List.Mem.head _)))))))))))))))))⟩
  · exact ⟨_, _, .tail _ (.tail _ (.tail _ (.tail _ (.tail _ (.tail _ (.tail _ (.tail _ (.tail _ (.tail _ (.tail _ (.tail _ (.tail _ (.tail _ (.tail _ (.tail _ (.tail _ (.tail _ (List.Mem.head _))))))))))))))))))⟩
  · exact ⟨_, _, .tail _ (.tail _ (.tail _ (.tail _ (.tail _ (.tail _ (.tail _ (.tail _ (.tail _ (.tail _ (.tail _ (.tail _ (.tail _ (.tail _ (.tail _ (.tail _ (.tail _ (.tail _ (.tail _ (List.Mem.head _)))))))))))))))))))⟩
  · exact ⟨_, _, .tail _ (.tail _ (.tail _ (.tail _ (.tail _ (.tail _ (.tail _ (.tail _ (.tail _ (.tail _ (.tail _ (.tail _ (.tail _ (.tail _ (.tail _ (.tail _ (.tail _ (.tail _ (.tail _ (.tail _ (List.Mem.head _))))))))))))))))))))⟩
  · exact ⟨_, _, .tail _ (.tail _ (.tail _ (.tail _ (.tail _ (.tail _ (.tail _ (.tail _ (.tail _ (.tail _ (.tail _ (.tail _ (.tail _ (.tail _ (.tail _ (.tail _ (.tail _ (.tail _ (.tail _ (.tail _ (.tail _ (List.Mem.head _)))))))))))))))))))))⟩
theorem fk_kind (a : Int) (u : Bool × Bool × Bool × Bool × Bool × Bool × Int × Int × Int) (s : Bool × Bool × Bool × Bool × Bool × Bool) (hm : (a, u, s) ∈ fkTab) : Ev (fun k => spec_l05Kind.f k a) u := by
  simp only [fkTab, List.mem_cons, Prod.mk.injEq, List.not_mem_nil, or_false] at hm
  rcases hm with ⟨rfl, rfl, rfl⟩ | ⟨rfl, rfl, rfl⟩ | ⟨rfl, rfl, rfl⟩ | ⟨rfl, rfl, rfl⟩ | ⟨rfl, rfl, rfl⟩ | ⟨rfl, rfl, rfl⟩ | ⟨rfl, rfl, rfl⟩ | ⟨rfl, rfl, rfl⟩ | ⟨rfl, rfl, rfl⟩ | ⟨rfl, rfl, rfl⟩ | ⟨rfl, rfl, rfl⟩ | ⟨rfl, rfl, rfl⟩ | ⟨rfl, rfl, rfl⟩ | ⟨rfl, rfl, rfl⟩ | ⟨rfl, rfl, rfl⟩ | ⟨rfl, rfl, rfl⟩ | ⟨rfl, rfl, rfl⟩ | ⟨rfl, rfl, rfl⟩ | ⟨rfl, rfl, rfl⟩ | ⟨rfl, rfl, rfl⟩ | ⟨rfl, rfl, rfl⟩ | ⟨rfl, rfl, rfl⟩ <;> exact Ev.of (spec_l05Kind.mono _) (k := 9) (by kernel_rfl)
theorem fk_shape (a : Int) (wa : (Lit.int .i64 a).wf = true) (u : Bool × Bool × Bool × Bool × Bool × Bool × Int × Int × Int) (s : Bool × Bool × Bool × Bool × Bool × Bool) (hm : (a, u, s) ∈ fkTab) : impl_shapeOf.f a = some (s.1, s.2.1, s.2.2.1, s.2.2.2.1, s.2.2.2.2.1, s.2.2.2.2.2, true) := by
  rw [shape_ok a wa]
  simp only [fkTab, List.mem_cons, Prod.mk.injEq, List.not_mem_nil, or_false] at hm
  rcases hm with ⟨rfl, rfl, rfl⟩ | ⟨rfl, rfl, rfl⟩ | ⟨rfl, rfl, rfl⟩ | ⟨rfl, rfl, rfl⟩ | ⟨rfl, rfl, rfl⟩ | ⟨rfl, rfl, rfl⟩ | ⟨rfl, rfl, rfl⟩ | ⟨rfl, rfl, rfl⟩ | ⟨rfl, rfl, rfl⟩ | ⟨rfl, rfl, rfl⟩ | ⟨rfl, rfl, rfl⟩ | ⟨rfl, rfl, rfl⟩ | ⟨rfl, rfl, rfl⟩ | ⟨rfl, rfl, rfl⟩ | ⟨rfl, rfl, rfl⟩ | ⟨rfl, rfl, rfl⟩ | ⟨rfl, rfl, rfl⟩ | ⟨rfl, rfl, rfl⟩ | ⟨rfl, rfl, rfl⟩ | ⟨rfl, rfl, rfl⟩ | ⟨rfl, rfl, rfl⟩ | ⟨rfl, rfl, rfl⟩ <;> kernel_rfl
set_option maxHeartbeats 8000000 in
theorem spec_known (a A B C : Int) (f R : Bool) (x y : List Int) (z : List S105) (u : Bool × Bool × Bool × Bool × Bool × Bool × Int × Int × Int) (s : Bool × Bool × Bool × Bool × Bool × Bool) (hm : (a, u, s) ∈ fkTab) (hu : Ev (fun k => spec_l05Kind.f k a) u) (hR : Ev (fun k => spec_l05RangesOK.f k z) R) (hE : z.length = 0 → R = true) :
    ∃ r, Ev (fun k => spec_FrameOK.f k a A B C f x y z) r ∧ (r = true ↔ okF a A B C f R x.length y.length z.length u) := by
  simp only [fkTab, List.mem_cons, Prod.mk.injEq, List.not_mem_nil, or_false] at hm
  rcases hm with ⟨rfl, rfl, rfl⟩ | ⟨rfl, rfl, rfl⟩ | ⟨rfl, rfl, rfl⟩ | ⟨rfl, rfl, rfl⟩ | ⟨rfl, rfl, rfl⟩ | ⟨rfl, rfl, rfl⟩ | ⟨rfl, rfl, rfl⟩ | ⟨rfl, rfl, rfl⟩ | ⟨rfl, rfl, rfl⟩ | ⟨rfl, rfl, rfl⟩ | ⟨rfl, rfl, rfl⟩ | ⟨rfl, rfl, rfl⟩ | ⟨rfl, rfl, rfl⟩ | ⟨rfl, rfl, rfl⟩ | ⟨rfl, rfl, rfl⟩ | ⟨rfl, rfl, rfl⟩ | ⟨rfl, rfl, rfl⟩ | ⟨rfl, rfl, rfl⟩ | ⟨rfl, rfl, rfl⟩ | ⟨rfl, rfl, rfl⟩ | ⟨rfl, rfl, rfl⟩ | ⟨rfl, rfl, rfl⟩
  all_goals
    simp only [spec_FrameOK.f]
    refine ex_bind hu ?_
    simp only [if_true, if_false, Bool.false_eq_true, var_eq, Option.bind_some, decide_eq_true_eq]
    cases R <;> cases f <;>
    repeat' first
      | exact ⟨_, Ev.now _, by simp only [okF]; (try simp [-List.length_eq_zero_iff] at *); (try omega)⟩
      | refine ex_ite (fun _ => ?_) (fun _ => ?_)
      | refine ex_bind hR ?_
      | (refine ex_step (fun k => rfl) ?_; simp only [spec_FrameOK.j0, spec_FrameOK.j1, spec_FrameOK.j2, if_true, if_false, Bool.false_eq_true, Bool.not_true, Bool.not_false, decide_eq_true_eq])
set_option maxHeartbeats 8000000 in
theorem impl_known (a A B C : Int) (f R : Bool) (x y : List Int) (z : List S105) (u : Bool × Bool × Bool × Bool × Bool × Bool × Int × Int × Int) (s : Bool × Bool × Bool × Bool × Bool × Bool) (hm : (a, u, s) ∈ fkTab) (hu : impl_shapeOf.f a = some (s.1, s.2.1, s.2.2.1, s.2.2.2.1, s.2.2.2.2.1, s.2.2.2.2.2, true)) (hR : Ev (fun k => impl_rangesOK.f k z) R) (hE : z.length = 0 → R = true) :
    ∃ r, Ev (fun k => impl_FrameOK.f k a A B C f x y z) r ∧ (r = true ↔ okF a A B C f R x.length y.length z.length u) := by
  simp only [fkTab, List.mem_cons, Prod.mk.injEq, List.not_mem_nil, or_false] at hm
  rcases hm with ⟨rfl, rfl, rfl⟩ | ⟨rfl, rfl, rfl⟩ | ⟨rfl, rfl, rfl⟩ | ⟨rfl, rfl, rfl⟩ | ⟨rfl, rfl, rfl⟩ | ⟨rfl, rfl, rfl⟩ | ⟨rfl, rfl, rfl⟩ | ⟨rfl, rfl, rfl⟩ | ⟨rfl, rfl, rfl⟩ | ⟨rfl, rfl, rfl⟩ | ⟨rfl, rfl, rfl⟩ | ⟨rfl, rfl, rfl⟩ | ⟨rfl, rfl, rfl⟩ | ⟨rfl, rfl, rfl⟩ | ⟨rfl, rfl, rfl⟩ | ⟨rfl, rfl, rfl⟩ | ⟨rfl, rfl, rfl⟩ | ⟨rfl, rfl, rfl⟩ | ⟨rfl, rfl, rfl⟩ | ⟨rfl, rfl, rfl⟩ | ⟨rfl, rfl, rfl⟩ | ⟨rfl, rfl, rfl⟩
  all_goals
    simp only [impl_FrameOK.f, hu, Option.bind_some, inVar_eq, if_true, if_false, Bool.false_eq_true, decide_eq_true_eq]
    cases R <;> cases f <;>
    repeat' first
      | exact ⟨_, Ev.now _, by simp only [okF]; (try simp [-List.length_eq_zero_iff] at *); (try omega)⟩
      | refine ex_ite (fun _ => ?_) (fun _ => ?_)
      | refine ex_bind hR ?_
      | (refine ex_step (fun k => rfl) ?_; simp only [impl_FrameOK.j0, impl_FrameOK.j1, impl_FrameOK.j2, impl_FrameOK.j3, impl_FrameOK.j4, impl_FrameOK.j5, if_true, if_false, Bool.false_eq_true, Bool.not_true, Bool.not_false, Bool.false_and, Bool.true_and, Bool.and_false, Bool.false_or, Bool.or_false, Bool.true_or, Bool.or_true, Bool.or_eq_true, Bool.and_eq_true, bne_iff_ne, ne_eq, decide_eq_true_eq])
theorem szFrame_ev (a b c d : Int) (f : Bool) (x y : List Int) (z : List S107) (m : Int) (h0 : 0 ≤ m) (h1 : m ≤ 1048576) (hx : x.length ≤ maxLen) (hy : y.length ≤ maxLen) (hz : z.length ≤ maxLen) :
    ∃ t, laws_szFrame.f a b c d f x y z m = some t ∧ (t < 0 ∨ (x.length ≤ 1048576 ∧ y.length ≤ 1048576 ∧ z.length ≤ 1048576)) := by
  have hz' := hz
  unfold maxLen at hx hy hz
  have m1 : (-1 : Int) < 0 := by decide
  rcases szB x m (by omega) (by omega) (by omega) with ⟨e1, h1⟩ | ⟨e1, h1⟩
  · exact ⟨-1, by simp only [laws_szFrame.f, e1, Option.bind_some, m1, if_true], .inl m1⟩
  rcases szB y (m - x.length) (by omega) (by omega) (by omega) with ⟨e2, h2⟩ | ⟨e2, h2⟩
  · exact ⟨-1, by simp only [laws_szFrame.f, e1, e2, Option.bind_some, show ¬ (m - (x.length : Int) < 0) by omega, m1, if_true, if_false], .inl m1⟩
  rcases szRangeS_at z (m - x.length - y.length) hz' (by omega) with ⟨h3, e3⟩ | ⟨h3, e3⟩
  · exact ⟨-1, by simp only [laws_szFrame.f, e1, e2, e3, Option.bind_some, show ¬ (m - (x.length : Int) < 0) by omega, show ¬ (m - (x.length : Int) - (y.length : Int) < 0) by omega, m1, if_true, if_false], .inl m1⟩
  · exact ⟨m - x.length - y.length - z.length, by simp only [laws_szFrame.f, e1, e2, e3, Option.bind_some, show ¬ (m - (x.length : Int) < 0) by omega, show ¬ (m - (x.length : Int) - (y.length : Int) < 0) by omega, show ¬ (m - (x.length : Int) - (y.length : Int) - (z.length : Int) < 0) by omega, if_false], .inr ⟨by omega, by omega, by omega⟩⟩
theorem toFrame_ev (a b c d : Int) (f : Bool) (x y : List Int) (z : List S107) (hx : x.length ≤ 1048576) (hy : y.length ≤ 1048576) (hz : z.length ≤ 1048576) : Ev (fun k => laws_toFrame.f k a b c d f x y z) (a, b, c, d, f, x, y, z.map conv) := by
  simp only [laws_toFrame.f]
  refine Ev.bind (toByteS_ev _ (by omega)) ?_
  refine Ev.bind (toByteS_ev _ (by omega)) ?_
  exact Ev.bind (toRangeS_ev _ hz) (Ev.now _)
theorem eqFrame_ev (a b c d : Int) (f : Bool) (x y : List Int) (z : List S105) (hx : x.length ≤ 281474976710656) (hy : y.length ≤ 281474976710656) (hz : z.length ≤ 281474976710656) : Ev (fun k => laws_eqFrame.f k a b c d f x y z a b c d f x y z) true := by
  simp only [laws_eqFrame.f, if_true, bne_self_eq_false, Bool.false_eq_true, if_false]
  refine Ev.bind (eqByteS_ev x hx) ?_
  simp only [if_true]
  refine Ev.bind (eqByteS_ev y hy) ?_
  simp only [if_true]
  refine Ev.bind (eqRangeS_ev z hz) ?_
  simp only [if_true]
  exact Ev.now _
theorem markFrame_ev (a b c d : Int) (f : Bool) (x y : List Int) (z : List S105) (m : Int) (h0 : 0 ≤ m) (h1 : m ≤ 16777216) (hx : x.length ≤ 1048576) (hy : y.length ≤ 1048576) (hz : z.length ≤ 1048576) :
    Ev (fun k => laws_markFrame.f k a b c d f x y z m) (m + x.length + y.length + 2 * z.length, marks m x.length, marks (m + x.length) y.length, marksR (m + x.length + y.length) z.length) := by
  simp only [laws_markFrame.f]
  refine Ev.bind (markByteS_ev x m h0 (by omega)) ?_
  refine Ev.bind (markByteS_ev y _ (by omega) (by omega)) ?_
  exact Ev.bind (markRangeS_ev z _ (by omega) (by omega)) (Ev.now _)
theorem frame_unknown (a : Int) (wa : (Lit.int .i64 a).wf = true) (A B C : Int) (f : Bool) (x y : List Int) (z : List S105) (h : ¬ Known a) :
    Ev (fun k => spec_FrameOK.f k a A B C f x y z) false ∧ Ev (fun k => impl_FrameOK.f k a A B C f x y z) false := by
  obtain ⟨⟨u, hu, h1⟩, h2⟩ := kind_unknown a h
  refine ⟨?_, ?_⟩
  · simp only [spec_FrameOK.f]
    refine Ev.bind hu ?_
    simp only [h1, Bool.false_eq_true, if_false]
    exact Ev.step (f := fun _ => some false) (fun k => by simp only [spec_FrameOK.j0, if_true]) (Ev.now _)
  · simp only [impl_FrameOK.f, shape_ok a wa, h2, Option.bind_some, Bool.false_eq_true, if_false]
    exact Ev.step (f := fun _ => some false) (fun k => by simp only [impl_FrameOK.j0, if_true]) (Ev.now _)
/-- What a right frame's bytes lean on. -/
def Right (a A B C : Int) (z : List S105) : Prop := Known a ∧ (0 ≤ A ∧ A ≤ 4611686018427387903) ∧ (0 ≤ B ∧ B ≤ 4611686018427387903) ∧ (0 ≤ C ∧ C ≤ 4611686018427387903) ∧ (a = 0 → A ≤ 1500) ∧ (a = 18 ∨ a = 22 → B ≤ 1) ∧ (a = 2 → 0 < z.length ∧ z.length ≤ 64 ∧ ∀ j, j < z.length → Good z j)
theorem frame_both (a : Int) (wa : (Lit.int .i64 a).wf = true) (A B C : Int) (f : Bool) (x y : List Int) (z : List S105) (hz : z.length ≤ 1048576) :
    ∃ r, Ev (fun k => spec_FrameOK.f k a A B C f x y z) r ∧ Ev (fun k => impl_FrameOK.f k a A B C f x y z) r ∧ (r = true → Right a A B C z) := by
  by_cases h : Known a
  · obtain ⟨u, s, hm⟩ := fk_of a h
    obtain ⟨R, hRs, hRi, hG⟩ := ok_both z hz
    have hE : z.length = 0 → R = true := by
      intro h0
      have e : z = [] := List.eq_nil_of_length_eq_zero h0
      subst e
      have h1 : Ev (fun k => spec_l05RangesOK.f k ([] : List S105)) true := by
        simp only [spec_l05RangesOK.f]
        exact Ev.step (f := fun _ => some true) (fun k => by simp [spec_l05RangesOK.l0]) (Ev.now _)
      exact Ev_unique hRs h1
    obtain ⟨r, h1, h2⟩ := spec_known a A B C f R x y z u s hm (fk_kind a u s hm) hRs hE
    obtain ⟨r', h3, h4⟩ := impl_known a A B C f R x y z u s hm (fk_shape a wa u s hm) hRi hE
    have e : r' = r := by
      cases r <;> cases r' <;> simp_all
    refine ⟨r, h1, e ▸ h3, fun h5 => ?_⟩
    have h6 := h2.mp h5
    unfold okF at h6
    obtain ⟨hA, hB, hC, _, _, _, _, _, _, _, hz1, hR, k0, k18, _, _, _⟩ := h6
    refine ⟨h, hA, hB, hC, fun h => (k0 h).2, fun h => (k18 h).2, fun h2 => ?_⟩
    subst h2
    have hu : u = (true, true, false, false, false, true, 0, 0, 0) := by
      simp only [fkTab, List.mem_cons, Prod.mk.injEq, List.not_mem_nil, or_false] at hm
      rcases hm with ⟨h7, rfl, rfl⟩ | ⟨h7, rfl, rfl⟩ | ⟨h7, rfl, rfl⟩ | ⟨h7, rfl, rfl⟩ | ⟨h7, rfl, rfl⟩ | ⟨h7, rfl, rfl⟩ | ⟨h7, rfl, rfl⟩ | ⟨h7, rfl, rfl⟩ | ⟨h7, rfl, rfl⟩ | ⟨h7, rfl, rfl⟩ | ⟨h7, rfl, rfl⟩ | ⟨h7, rfl, rfl⟩ | ⟨h7, rfl, rfl⟩ | ⟨h7, rfl, rfl⟩ | ⟨h7, rfl, rfl⟩ | ⟨h7, rfl, rfl⟩ | ⟨h7, rfl, rfl⟩ | ⟨h7, rfl, rfl⟩ | ⟨h7, rfl, rfl⟩ | ⟨h7, rfl, rfl⟩ | ⟨h7, rfl, rfl⟩ | ⟨h7, rfl, rfl⟩ <;> first | rfl | (exact absurd h7 (by decide))
    subst hu
    have h8 := hz1.mp rfl
    exact ⟨by omega, (hG hR).1, (hG hR).2⟩
  · obtain ⟨h1, h2⟩ := frame_unknown a wa A B C f x y z h
    exact ⟨false, h1, h2, fun h => by cases h⟩
theorem n_ev (l : List Int) (v : Int) (h : 0 ≤ v ∧ v ≤ 4611686018427387903) (hl : l.length ≤ 4000000) : Ev (fun k => spec_l05N.f k l v) (l ++ pv v) := by
  have hp := pv_len v h.2
  simp only [spec_l05N.f]
  refine Ev.bind (specPutVar_ev v h.1 h.2) ?_
  simp only [show l.length + (pv v).length < 140737488355328 by omega, if_true]
  exact Ev.now _
theorem counted_ev (l m : List Int) (hl : l.length ≤ 1048576) (hm : m.length ≤ 1048576) : Ev (fun k => spec_l05Counted.f k l m) (l ++ pv (m.length : Int) ++ m) := by
  have hp := pv_len (m.length : Int) (by omega)
  simp only [spec_l05Counted.f]
  refine Ev.bind (n_ev l _ (by omega) (by omega)) ?_
  rw [if_pos (by rw [List.length_append]; omega)]
  exact Ev.now _
theorem addVar_ev' (l : List Int) (v : Int) (h : 0 ≤ v ∧ v ≤ 4611686018427387903) (hl : l.length ≤ 4000000) : Ev (fun k => impl_addVar.f k l v) (l ++ pv v) := addVar_ev l v h.1 h.2 (by omega)
theorem addVars_loop (vs : List Int) (hv : ∀ v ∈ vs, 0 ≤ v ∧ v ≤ 4611686018427387903) (hn : vs.length ≤ 16) (n : Nat) : ∀ (i : Nat) (l : List Int), vs.length - i = n → i ≤ vs.length → l.length + 16 * n ≤ 4000000 → Ev (fun k => impl_addVars.l0 k l vs (vs.length : Int) (i : Int)) (l ++ (vs.drop i).flatMap pv) := by
  induction n with
  | zero =>
    intro i l hi hi' hl
    refine Ev.step (fun k => rfl) ?_
    simp only [impl_addVars.l0, show ¬ ((i : Int) < (vs.length : Int)) by omega, if_false]
    exact Ev_now (by rw [List.drop_eq_nil_of_le (by omega)]; simp)
  | succ n ih =>
    intro i l hi hi' hl
    have hil : i < vs.length := by omega
    have hr : rd vs (i : Int) = vs[i] := rd_some (List.getElem?_eq_getElem hil)
    have h1 := hv _ (List.getElem_mem hil)
    rw [← hr] at h1
    have hp := pv_len _ h1.2
    refine Ev.step (fun k => rfl) ?_
    simp only [impl_addVars.l0, show ((i : Int) < (vs.length : Int)) by omega, show (0 : Int) ≤ (i : Int) by omega, if_true]
    refine Ev.bind (addVar_ev' l _ h1 (by omega)) ?_
    simp only [next64 (show i < 4611686018427387904 by omega)]
    refine Ev_cast (ih (i + 1) (l ++ pv (rd vs (i : Int))) (by omega) (by omega) (by rw [List.length_append]; omega)) ?_
    rw [List.drop_eq_getElem_cons hil, ← hr]
    simp only [List.flatMap_cons, List.append_assoc]
theorem addVars_ev (l vs : List Int) (hv : ∀ v ∈ vs, 0 ≤ v ∧ v ≤ 4611686018427387903) (hn : vs.length ≤ 16) (hl : l.length ≤ 3000000) : Ev (fun k => impl_addVars.f k l vs) (l ++ vs.flatMap pv) := by
  simp only [impl_addVars.f]
  refine Ev_cast (addVars_loop vs hv hn vs.length 0 l (by omega) (by omega) (by omega)) ?_
  simp
/-- The gaps and lengths of an acknowledgement, from range j - 1 down. -/
def ackT (z : List S105) : Nat → List Int
  | 0 => []
  | j + 1 => pv ((rd_T105 z ((j + 1 : Nat) : Int)).f0 - (rd_T105 z (j : Int)).f1 - 2) ++ pv ((rd_T105 z (j : Int)).f1 - (rd_T105 z (j : Int)).f0) ++ ackT z j
theorem ack_facts (z : List S105) (G : ∀ j, j < z.length → Good z j) (j : Nat) (h : j + 1 < z.length) :
    (0 ≤ (rd_T105 z ((j + 1 : Nat) : Int)).f0 - (rd_T105 z (j : Int)).f1 - 2 ∧ (rd_T105 z ((j + 1 : Nat) : Int)).f0 - (rd_T105 z (j : Int)).f1 - 2 ≤ 4611686018427387903) ∧
    (0 ≤ (rd_T105 z (j : Int)).f1 - (rd_T105 z (j : Int)).f0 ∧ (rd_T105 z (j : Int)).f1 - (rd_T105 z (j : Int)).f0 ≤ 4611686018427387903) ∧
    wrap64 (wrap64 ((rd_T105 z ((j + 1 : Nat) : Int)).f0 - (rd_T105 z (j : Int)).f1) - 2) = (rd_T105 z ((j + 1 : Nat) : Int)).f0 - (rd_T105 z (j : Int)).f1 - 2 ∧
    wrap64 ((rd_T105 z (j : Int)).f1 - (rd_T105 z (j : Int)).f0) = (rd_T105 z (j : Int)).f1 - (rd_T105 z (j : Int)).f0 := by
  obtain ⟨a1, a2, a3, _⟩ := G j (by omega)
  obtain ⟨b1, b2, b3, b4⟩ := G (j + 1) h
  have b5 := b4 (by omega)
  rw [show ((j + 1 : Nat) : Int) - 1 = (j : Int) by omega, w64 (by omega) (by omega)] at b5
  refine ⟨⟨by omega, by omega⟩, ⟨by omega, by omega⟩, ?_, w64 (by omega) (by omega)⟩
  rw [w64 (x := (rd_T105 z ((j + 1 : Nat) : Int)).f0 - (rd_T105 z (j : Int)).f1) (by omega) (by omega), w64 (by omega) (by omega)]
theorem ackT_length (z : List S105) (G : ∀ j, j < z.length → Good z j) : ∀ j, j < z.length → (ackT z j).length ≤ 16 * j
  | 0, _ => by simp [ackT]
  | j + 1, h => by
    have ih := ackT_length z G j (by omega)
    obtain ⟨g, n, _, _⟩ := ack_facts z G j h
    have p1 := pv_len _ g.2
    have p2 := pv_len _ n.2
    simp only [ackT, List.length_append]
    omega
theorem sAck_loop (a A B C : Int) (f : Bool) (x y : List Int) (z : List S105) (hz : z.length ≤ 64) (G : ∀ j, j < z.length → Good z j) : ∀ (j : Nat) (acc : List Int), j < z.length → acc.length + 16 * j ≤ 3000000 → Ev (fun k => spec_l05AckBytes.l0 k ((j : Int) - 1) acc a A B C f x y z) (acc ++ ackT z j)
  | 0, acc, _, _ => by
    refine Ev.step (fun k => rfl) ?_
    simp only [spec_l05AckBytes.l0, show ¬ (((0 : Nat) : Int) - 1 ≥ 0) by omega, if_false]
    exact Ev_now (by simp [ackT])
  | j + 1, acc, h, hl => by
    obtain ⟨g, n, e1, e2⟩ := ack_facts z G j h
    have p1 := pv_len _ g.2
    have p2 := pv_len _ n.2
    rw [show ((j + 1 : Nat) : Int) - 1 = (j : Int) by omega]
    refine Ev.step (fun k => rfl) ?_
    simp only [spec_l05AckBytes.l0, next64 (show j < 4611686018427387904 by omega), e1, e2, show ((j : Int) ≥ 0) by omega, show (0 : Int) ≤ ((j + 1 : Nat) : Int) by omega, show (((j + 1 : Nat) : Int) < (z.length : Int)) by omega, show (0 : Int) ≤ (j : Int) by omega, show ((j : Int) < (z.length : Int)) by omega, if_true]
    refine Ev.bind (n_ev acc _ g (by omega)) ?_
    refine Ev.bind (n_ev _ _ n (by rw [List.length_append]; omega)) ?_
    rw [w64 (x := (j : Int) - 1) (by omega) (by omega)]
    refine Ev_cast (sAck_loop a A B C f x y z hz G j _ (by omega) (by simp only [List.length_append]; omega)) ?_
    simp [ackT]
theorem iAck_loop (a A B C : Int) (f : Bool) (x y : List Int) (z : List S105) (hz : z.length ≤ 64) (G : ∀ j, j < z.length → Good z j) : ∀ (j : Nat) (acc : List Int), j < z.length → acc.length + 16 * j ≤ 3000000 → Ev (fun k => impl_frameBytes.l0 k acc ((j : Int) - 1) a A B C f x y z) (acc ++ ackT z j)
  | 0, acc, _, _ => by
    refine Ev.step (fun k => rfl) ?_
    simp only [impl_frameBytes.l0, show ¬ (((0 : Nat) : Int) - 1 ≥ 0) by omega, if_false]
    exact Ev_now (by simp [ackT])
  | j + 1, acc, h, hl => by
    obtain ⟨g, n, e1, e2⟩ := ack_facts z G j h
    have p1 := pv_len _ g.2
    have p2 := pv_len _ n.2
    rw [show ((j + 1 : Nat) : Int) - 1 = (j : Int) by omega]
    refine Ev.step (fun k => rfl) ?_
    simp only [impl_frameBytes.l0, next64 (show j < 4611686018427387904 by omega), e1, e2, show ((j : Int) ≥ 0) by omega, show (0 : Int) ≤ ((j + 1 : Nat) : Int) by omega, show (((j + 1 : Nat) : Int) < (z.length : Int)) by omega, show (0 : Int) ≤ (j : Int) by omega, show ((j : Int) < (z.length : Int)) by omega, if_true]
    refine Ev.bind (addVars_ev acc _ (by intro v hv; simp only [List.mem_cons, List.not_mem_nil, or_false] at hv; rcases hv with rfl | rfl <;> assumption) (by simp) (by omega)) ?_
    rw [w64 (x := (j : Int) - 1) (by omega) (by omega)]
    refine Ev_cast (iAck_loop a A B C f x y z hz G j _ (by omega) (by simp only [List.length_append, List.flatMap_cons, List.flatMap_nil, List.length_nil]; omega)) ?_
    simp [ackT]
section
variable (A B C : Int) (f : Bool) (x y : List Int) (z : List S105) (hA : 0 ≤ A ∧ A ≤ 4611686018427387903) (hB : 0 ≤ B ∧ B ≤ 4611686018427387903) (hC : 0 ≤ C ∧ C ≤ 4611686018427387903) (hx : x.length ≤ 1048576) (hy : y.length ≤ 1048576)
/-- Both write w. -/
def Same (a A B C : Int) (f : Bool) (x y : List Int) (z : List S105) (w : List Int) : Prop :=
  (Ev (fun k => spec_FrameOK.f k a A B C f x y z) true → Ev (fun k => spec_FrameBytes.f k a A B C f x y z) (w, 0)) ∧ Ev (fun k => impl_frameBytes.f k a A B C f x y z) w ∧ w.length ≤ 3000000
include hA hB hC hx hy in
set_option maxHeartbeats 4000000 in
theorem same_plain (a : Int) (w : List Int) (h : (a = 1 ∧ w = [1]) ∨ (a = 4 ∧ w = [4] ++ pv A ++ pv B ++ pv C) ∨ (a = 5 ∧ w = [5] ++ pv A ++ pv B) ∨ (a = 6 ∧ w = [6] ++ pv A ++ pv (x.length : Int) ++ x) ∨ (a = 7 ∧ w = [7] ++ pv (x.length : Int) ++ x) ∨ (a = 16 ∧ w = [16] ++ pv A) ∨ (a = 17 ∧ w = [17] ++ pv A ++ pv B) ∨ (a = 20 ∧ w = [20] ++ pv A) ∨ (a = 21 ∧ w = [21] ++ pv A ++ pv B) ∨ (a = 24 ∧ w = [24] ++ pv A ++ pv B ++ [(x.length : Int) % 256] ++ x ++ y) ∨ (a = 25 ∧ w = [25] ++ pv A) ∨ (a = 26 ∧ w = [26] ++ x) ∨ (a = 27 ∧ w = [27] ++ x) ∨ (a = 28 ∧ w = [28] ++ pv A ++ pv B ++ pv (x.length : Int) ++ x) ∨ (a = 29 ∧ w = [29] ++ pv A ++ pv (x.length : Int) ++ x) ∨ (a = 30 ∧ w = [30]) ∨ (a = 48 ∧ w = [49] ++ pv (x.length : Int) ++ x)) : Same a A B C f x y z w := by
  rcases h with ⟨rfl, rfl⟩ | ⟨rfl, rfl⟩ | ⟨rfl, rfl⟩ | ⟨rfl, rfl⟩ | ⟨rfl, rfl⟩ | ⟨rfl, rfl⟩ | ⟨rfl, rfl⟩ | ⟨rfl, rfl⟩ | ⟨rfl, rfl⟩ | ⟨rfl, rfl⟩ | ⟨rfl, rfl⟩ | ⟨rfl, rfl⟩ | ⟨rfl, rfl⟩ | ⟨rfl, rfl⟩ | ⟨rfl, rfl⟩ | ⟨rfl, rfl⟩ | ⟨rfl, rfl⟩
  all_goals
    have pA := pv_len A hA.2
    have pB := pv_len B hB.2
    have pC := pv_len C hC.2
    have pX := pv_len (x.length : Int) (by omega)
    refine ⟨fun hS => ?_, ?_, ?_⟩
    · simp only [spec_FrameBytes.f]
      refine Ev.bind hS ?_
      simp only [if_true, if_false, Option.bind_some, Bool.false_eq_true, reduceCtorEq, beq_self_eq_true, Int.reduceEq, Int.reduceBEq, Int.reduceMod, Int.reduceLT, Int.reduceLE]
      repeat' first
        | exact Ev_now (by simp)
        | refine Ev.bind (n_ev _ _ (by assumption) (by simp <;> omega)) ?_
        | refine Ev.bind (counted_ev _ _ (by simp <;> omega) (by assumption)) ?_
        | (refine Ev.step (fun k => rfl) ?_; simp only [spec_FrameBytes.j0, spec_FrameBytes.j1, spec_FrameBytes.j2, spec_FrameBytes.j3, spec_FrameBytes.j5, if_true, if_false, Option.bind_some, Bool.false_eq_true, reduceCtorEq, beq_self_eq_true, Int.reduceEq, Int.reduceBEq, Int.reduceMod, Int.reduceLT, Int.reduceLE])
        | refine Ev_ite (fun _ => ?_) (fun c => absurd (by simp <;> omega) c)
        | simp only [Option.bind_some]
    · simp only [impl_frameBytes.f, if_true, if_false, Option.bind_some, Bool.false_eq_true, reduceCtorEq, beq_self_eq_true, Int.reduceEq, Int.reduceBEq, Int.reduceMod, Int.reduceLT, Int.reduceLE]
      repeat' first
        | exact Ev_now (by simp [rd])
        | refine Ev.bind (addVar_ev' _ _ (by assumption) (by simp <;> omega)) ?_
        | refine Ev.bind (addVars_ev _ _ (by simp only [List.mem_cons, List.not_mem_nil, or_false]; rintro v (rfl | rfl | rfl) <;> assumption) (by simp) (by simp)) ?_
        | refine Ev.bind (addVars_ev _ _ (by simp only [List.mem_cons, List.not_mem_nil, or_false]; rintro v (rfl | rfl) <;> assumption) (by simp) (by simp)) ?_
        | refine Ev.bind (addCounted_ev _ _ (by simp <;> omega) (by assumption)) ?_
        | (refine Ev.step (fun k => rfl) ?_; simp only [impl_frameBytes.j1, impl_frameBytes.j4, impl_frameBytes.j5, impl_frameBytes.j6, if_true, if_false, Option.bind_some, Bool.false_eq_true, reduceCtorEq, beq_self_eq_true, Int.reduceEq, Int.reduceBEq, Int.reduceMod, Int.reduceLT, Int.reduceLE])
        | refine Ev_ite (fun _ => ?_) (fun c => absurd (by simp <;> omega) c)
        | simp only [Option.bind_some]
    · simp <;> omega
include hA in
theorem same_0 (h : A ≤ 1500) : Same 0 A B C f x y z (List.replicate A.toNat 0) := by
  refine ⟨fun hS => ?_, ?_, ?_⟩
  · simp only [spec_FrameBytes.f]
    refine Ev.bind hS ?_
    simp only [if_true, Option.bind_some, hA.1, show A.toNat ≤ 281474976710656 by omega]
    exact Ev.now _
  · simp only [impl_frameBytes.f, Option.bind_some, if_true, hA.1, show A.toNat ≤ 281474976710656 by omega]
    exact Ev.now _
  · simp <;> omega
include hA in
theorem same_18_0 : Same 18 A 0 C f x y z ([18] ++ pv A) := by
  have pA := pv_len A hA.2
  refine ⟨fun hS => ?_, ?_, ?_⟩
  · simp only [spec_FrameBytes.f]
    refine Ev.bind hS ?_
    simp only [if_true, if_false, Option.bind_some, Bool.false_eq_true, reduceCtorEq, beq_self_eq_true, Int.reduceEq, Int.reduceBEq, Int.reduceMod, Int.reduceLT, Int.reduceLE]
    refine Ev.step (fun k => rfl) ?_
    simp only [spec_FrameBytes.j0, if_true, if_false, Option.bind_some, Bool.false_eq_true, reduceCtorEq, beq_self_eq_true, Int.reduceEq, Int.reduceBEq, Int.reduceMod, Int.reduceLT, Int.reduceLE]
    refine Ev.step (fun k => rfl) ?_
    simp only [spec_FrameBytes.j1, if_true, if_false, Option.bind_some, Bool.false_eq_true, reduceCtorEq, beq_self_eq_true, Int.reduceEq, Int.reduceBEq, Int.reduceMod, Int.reduceLT, Int.reduceLE, show wrap64 (18 + 0) = 18 by decide +kernel]
    exact Ev.bind (n_ev _ _ hA (by simp)) (Ev.now _)
  · simp only [impl_frameBytes.f, if_true, if_false, Option.bind_some, Bool.false_eq_true, reduceCtorEq, beq_self_eq_true, Int.reduceEq, Int.reduceBEq, Int.reduceMod, Int.reduceLT, Int.reduceLE]
    refine Ev.step (fun k => rfl) ?_
    simp only [impl_frameBytes.j1, if_true, if_false, Option.bind_some, Bool.false_eq_true, reduceCtorEq, beq_self_eq_true, Int.reduceEq, Int.reduceBEq, Int.reduceMod, Int.reduceLT, Int.reduceLE]
    refine Ev.step (fun k => rfl) ?_
    simp only [impl_frameBytes.j4, if_true, if_false, Option.bind_some, Bool.false_eq_true, reduceCtorEq, beq_self_eq_true, Int.reduceEq, Int.reduceBEq, Int.reduceMod, Int.reduceLT, Int.reduceLE]
    refine Ev_ite (fun _ => ?_) (fun c => absurd (by simp) c)
    exact Ev.bind (addVar_ev' _ _ hA (by simp)) (Ev_now (by simp [rd]))
  · simp <;> omega
include hA in
theorem same_18_1 : Same 18 A 1 C f x y z ([19] ++ pv A) := by
  have pA := pv_len A hA.2
  refine ⟨fun hS => ?_, ?_, ?_⟩
  · simp only [spec_FrameBytes.f]
    refine Ev.bind hS ?_
    simp only [if_true, if_false, Option.bind_some, Bool.false_eq_true, reduceCtorEq, beq_self_eq_true, Int.reduceEq, Int.reduceBEq, Int.reduceMod, Int.reduceLT, Int.reduceLE]
    refine Ev.step (fun k => rfl) ?_
    simp only [spec_FrameBytes.j0, if_true, if_false, Option.bind_some, Bool.false_eq_true, reduceCtorEq, beq_self_eq_true, Int.reduceEq, Int.reduceBEq, Int.reduceMod, Int.reduceLT, Int.reduceLE]
    refine Ev.step (fun k => rfl) ?_
    simp only [spec_FrameBytes.j1, if_true, if_false, Option.bind_some, Bool.false_eq_true, reduceCtorEq, beq_self_eq_true, Int.reduceEq, Int.reduceBEq, Int.reduceMod, Int.reduceLT, Int.reduceLE, show wrap64 (18 + 1) = 19 by decide +kernel]
    exact Ev.bind (n_ev _ _ hA (by simp)) (Ev.now _)
  · simp only [impl_frameBytes.f, if_true, if_false, Option.bind_some, Bool.false_eq_true, reduceCtorEq, beq_self_eq_true, Int.reduceEq, Int.reduceBEq, Int.reduceMod, Int.reduceLT, Int.reduceLE]
    refine Ev.step (fun k => rfl) ?_
    simp only [impl_frameBytes.j1, if_true, if_false, Option.bind_some, Bool.false_eq_true, reduceCtorEq, beq_self_eq_true, Int.reduceEq, Int.reduceBEq, Int.reduceMod, Int.reduceLT, Int.reduceLE]
    refine Ev.step (fun k => rfl) ?_
    simp only [impl_frameBytes.j4, if_true, if_false, Option.bind_some, Bool.false_eq_true, reduceCtorEq, beq_self_eq_true, Int.reduceEq, Int.reduceBEq, Int.reduceMod, Int.reduceLT, Int.reduceLE]
    refine Ev_ite (fun _ => ?_) (fun c => absurd (by simp) c)
    exact Ev.bind (addVar_ev' _ _ hA (by simp)) (Ev_now (by simp [rd]))
  · simp <;> omega
include hA in
theorem same_22_0 : Same 22 A 0 C f x y z ([22] ++ pv A) := by
  have pA := pv_len A hA.2
  refine ⟨fun hS => ?_, ?_, ?_⟩
  · simp only [spec_FrameBytes.f]
    refine Ev.bind hS ?_
    simp only [if_true, if_false, Option.bind_some, Bool.false_eq_true, reduceCtorEq, beq_self_eq_true, Int.reduceEq, Int.reduceBEq, Int.reduceMod, Int.reduceLT, Int.reduceLE]
    refine Ev.step (fun k => rfl) ?_
    simp only [spec_FrameBytes.j0, if_true, if_false, Option.bind_some, Bool.false_eq_true, reduceCtorEq, beq_self_eq_true, Int.reduceEq, Int.reduceBEq, Int.reduceMod, Int.reduceLT, Int.reduceLE]
    refine Ev.step (fun k => rfl) ?_
    simp only [spec_FrameBytes.j1, if_true, if_false, Option.bind_some, Bool.false_eq_true, reduceCtorEq, beq_self_eq_true, Int.reduceEq, Int.reduceBEq, Int.reduceMod, Int.reduceLT, Int.reduceLE, show wrap64 (22 + 0) = 22 by decide +kernel]
    exact Ev.bind (n_ev _ _ hA (by simp)) (Ev.now _)
  · simp only [impl_frameBytes.f, if_true, if_false, Option.bind_some, Bool.false_eq_true, reduceCtorEq, beq_self_eq_true, Int.reduceEq, Int.reduceBEq, Int.reduceMod, Int.reduceLT, Int.reduceLE]
    refine Ev.step (fun k => rfl) ?_
    simp only [impl_frameBytes.j1, if_true, if_false, Option.bind_some, Bool.false_eq_true, reduceCtorEq, beq_self_eq_true, Int.reduceEq, Int.reduceBEq, Int.reduceMod, Int.reduceLT, Int.reduceLE]
    refine Ev.step (fun k => rfl) ?_
    simp only [impl_frameBytes.j4, if_true, if_false, Option.bind_some, Bool.false_eq_true, reduceCtorEq, beq_self_eq_true, Int.reduceEq, Int.reduceBEq, Int.reduceMod, Int.reduceLT, Int.reduceLE]
    refine Ev_ite (fun _ => ?_) (fun c => absurd (by simp) c)
    exact Ev.bind (addVar_ev' _ _ hA (by simp)) (Ev_now (by simp [rd]))
  · simp <;> omega
include hA in
theorem same_22_1 : Same 22 A 1 C f x y z ([23] ++ pv A) := by
  have pA := pv_len A hA.2
  refine ⟨fun hS => ?_, ?_, ?_⟩
  · simp only [spec_FrameBytes.f]
    refine Ev.bind hS ?_
    simp only [if_true, if_false, Option.bind_some, Bool.false_eq_true, reduceCtorEq, beq_self_eq_true, Int.reduceEq, Int.reduceBEq, Int.reduceMod, Int.reduceLT, Int.reduceLE]
    refine Ev.step (fun k => rfl) ?_
    simp only [spec_FrameBytes.j0, if_true, if_false, Option.bind_some, Bool.false_eq_true, reduceCtorEq, beq_self_eq_true, Int.reduceEq, Int.reduceBEq, Int.reduceMod, Int.reduceLT, Int.reduceLE]
    refine Ev.step (fun k => rfl) ?_
    simp only [spec_FrameBytes.j1, if_true, if_false, Option.bind_some, Bool.false_eq_true, reduceCtorEq, beq_self_eq_true, Int.reduceEq, Int.reduceBEq, Int.reduceMod, Int.reduceLT, Int.reduceLE, show wrap64 (22 + 1) = 23 by decide +kernel]
    exact Ev.bind (n_ev _ _ hA (by simp)) (Ev.now _)
  · simp only [impl_frameBytes.f, if_true, if_false, Option.bind_some, Bool.false_eq_true, reduceCtorEq, beq_self_eq_true, Int.reduceEq, Int.reduceBEq, Int.reduceMod, Int.reduceLT, Int.reduceLE]
    refine Ev.step (fun k => rfl) ?_
    simp only [impl_frameBytes.j1, if_true, if_false, Option.bind_some, Bool.false_eq_true, reduceCtorEq, beq_self_eq_true, Int.reduceEq, Int.reduceBEq, Int.reduceMod, Int.reduceLT, Int.reduceLE]
    refine Ev.step (fun k => rfl) ?_
    simp only [impl_frameBytes.j4, if_true, if_false, Option.bind_some, Bool.false_eq_true, reduceCtorEq, beq_self_eq_true, Int.reduceEq, Int.reduceBEq, Int.reduceMod, Int.reduceLT, Int.reduceLE]
    refine Ev_ite (fun _ => ?_) (fun c => absurd (by simp) c)
    exact Ev.bind (addVar_ev' _ _ hA (by simp)) (Ev_now (by simp [rd]))
  · simp <;> omega
include hA hx in
theorem same_8_false_0 : Same 8 A 0 C false x y z ([10] ++ pv A ++ pv (x.length : Int) ++ x) := by
  have pA := pv_len A hA.2
  have pX := pv_len (x.length : Int) (by omega)
  refine ⟨fun hS => ?_, ?_, ?_⟩
  · simp only [spec_FrameBytes.f]
    refine Ev.bind hS ?_
    simp only [if_true, if_false, Option.bind_some, Bool.false_eq_true, reduceCtorEq, beq_self_eq_true, Int.reduceEq, Int.reduceBEq, Int.reduceMod, Int.reduceLT, Int.reduceLE]
    repeat' first
      | exact Ev_now (by simp)
      | refine Ev.bind (n_ev _ _ hA (by simp)) ?_
      | refine Ev.bind (counted_ev _ _ (by simp <;> omega) hx) ?_
      | (refine Ev.step (fun k => rfl) ?_; simp only [spec_FrameBytes.j0, spec_FrameBytes.j1, spec_FrameBytes.j2, spec_FrameBytes.j3, spec_FrameBytes.j4, if_true, if_false, Option.bind_some, Bool.false_eq_true, reduceCtorEq, beq_self_eq_true, Int.reduceEq, Int.reduceBEq, Int.reduceMod, Int.reduceLT, Int.reduceLE, Int.reduceAdd])
  · simp only [impl_frameBytes.f, if_true, if_false, Option.bind_some, Bool.false_eq_true, reduceCtorEq, beq_self_eq_true, Int.reduceEq, Int.reduceBEq, Int.reduceMod, Int.reduceLT, Int.reduceLE]
    repeat' first
      | exact Ev_now (by simp)
      | refine Ev.bind (addVar_ev' _ _ hA (by simp)) ?_
      | refine Ev.bind (addCounted_ev _ _ (by simp <;> omega) hx) ?_
      | (refine Ev.step (fun k => rfl) ?_; simp only [impl_frameBytes.j1, impl_frameBytes.j2, impl_frameBytes.j3, if_true, if_false, Option.bind_some, Bool.false_eq_true, reduceCtorEq, beq_self_eq_true, Int.reduceEq, Int.reduceBEq, Int.reduceMod, Int.reduceLT, Int.reduceLE, show Int.toNat 0 = 0 from rfl, List.set_cons_zero, show Go.bits .or .u8 (rd [10] 0) 1 = 11 by decide +kernel])
      | refine Ev_ite (fun _ => ?_) (fun c => absurd (by simp) c)
      | simp only [Option.bind_some, show Int.toNat 0 = 0 from rfl, List.set_cons_zero, show Go.bits .or .u8 (rd [10] 0) 1 = 11 by decide +kernel]
  · simp <;> omega
include hA hB hx in
theorem same_8_false_1 (h0 : ¬ B = 0) : Same 8 A B C false x y z ([14] ++ pv A ++ pv B ++ pv (x.length : Int) ++ x) := by
  have pA := pv_len A hA.2
  have pB := pv_len B hB.2
  have pX := pv_len (x.length : Int) (by omega)
  refine ⟨fun hS => ?_, ?_, ?_⟩
  · simp only [spec_FrameBytes.f]
    refine Ev.bind hS ?_
    simp only [if_true, if_false, Option.bind_some, Bool.false_eq_true, reduceCtorEq, beq_self_eq_true, Int.reduceEq, Int.reduceBEq, Int.reduceMod, Int.reduceLT, Int.reduceLE]
    repeat' first
      | exact Ev_now (by simp)
      | refine Ev.bind (n_ev _ _ hA (by simp)) ?_
      | refine Ev.bind (n_ev _ _ hB (by simp <;> omega)) ?_
      | refine Ev.bind (counted_ev _ _ (by simp <;> omega) hx) ?_
      | (refine Ev.step (fun k => rfl) ?_; simp only [spec_FrameBytes.j0, spec_FrameBytes.j1, spec_FrameBytes.j2, spec_FrameBytes.j3, spec_FrameBytes.j4, if_true, if_false, Option.bind_some, Bool.false_eq_true, reduceCtorEq, beq_self_eq_true, Int.reduceEq, Int.reduceBEq, Int.reduceMod, Int.reduceLT, Int.reduceLE, h0, Int.reduceAdd, show wrap64 14 = 14 by decide +kernel, show wrap64 15 = 15 by decide +kernel])
  · simp only [impl_frameBytes.f, if_true, if_false, Option.bind_some, Bool.false_eq_true, reduceCtorEq, beq_self_eq_true, Int.reduceEq, Int.reduceBEq, Int.reduceMod, Int.reduceLT, Int.reduceLE]
    repeat' first
      | exact Ev_now (by simp)
      | refine Ev.bind (addVar_ev' _ _ hA (by simp)) ?_
      | refine Ev.bind (addVar_ev' _ _ hB (by simp <;> omega)) ?_
      | refine Ev.bind (addCounted_ev _ _ (by simp <;> omega) hx) ?_
      | (refine Ev.step (fun k => rfl) ?_; simp only [impl_frameBytes.j1, impl_frameBytes.j2, impl_frameBytes.j3, if_true, if_false, Option.bind_some, Bool.false_eq_true, reduceCtorEq, beq_self_eq_true, Int.reduceEq, Int.reduceBEq, Int.reduceMod, Int.reduceLT, Int.reduceLE, h0, show Int.toNat 0 = 0 from rfl, List.set_cons_zero, show Go.bits .or .u8 (rd [10] 0) 4 = 14 by decide +kernel, show Go.bits .or .u8 (rd [14] 0) 1 = 15 by decide +kernel])
      | refine Ev_ite (fun _ => ?_) (fun c => absurd (by simp) c)
      | simp only [Option.bind_some, h0, if_false, show Int.toNat 0 = 0 from rfl, List.set_cons_zero, show Go.bits .or .u8 (rd [10] 0) 4 = 14 by decide +kernel, show Go.bits .or .u8 (rd [14] 0) 1 = 15 by decide +kernel]
  · simp <;> omega
include hA hx in
theorem same_8_true_0 : Same 8 A 0 C true x y z ([11] ++ pv A ++ pv (x.length : Int) ++ x) := by
  have pA := pv_len A hA.2
  have pX := pv_len (x.length : Int) (by omega)
  refine ⟨fun hS => ?_, ?_, ?_⟩
  · simp only [spec_FrameBytes.f]
    refine Ev.bind hS ?_
    simp only [if_true, if_false, Option.bind_some, Bool.false_eq_true, reduceCtorEq, beq_self_eq_true, Int.reduceEq, Int.reduceBEq, Int.reduceMod, Int.reduceLT, Int.reduceLE]
    repeat' first
      | exact Ev_now (by simp)
      | refine Ev.bind (n_ev _ _ hA (by simp)) ?_
      | refine Ev.bind (counted_ev _ _ (by simp <;> omega) hx) ?_
      | (refine Ev.step (fun k => rfl) ?_; simp only [spec_FrameBytes.j0, spec_FrameBytes.j1, spec_FrameBytes.j2, spec_FrameBytes.j3, spec_FrameBytes.j4, if_true, if_false, Option.bind_some, Bool.false_eq_true, reduceCtorEq, beq_self_eq_true, Int.reduceEq, Int.reduceBEq, Int.reduceMod, Int.reduceLT, Int.reduceLE, Int.reduceAdd])
  · simp only [impl_frameBytes.f, if_true, if_false, Option.bind_some, Bool.false_eq_true, reduceCtorEq, beq_self_eq_true, Int.reduceEq, Int.reduceBEq, Int.reduceMod, Int.reduceLT, Int.reduceLE]
    repeat' first
      | exact Ev_now (by simp)
      | refine Ev.bind (addVar_ev' _ _ hA (by simp)) ?_
      | refine Ev.bind (addCounted_ev _ _ (by simp <;> omega) hx) ?_
      | (refine Ev.step (fun k => rfl) ?_; simp only [impl_frameBytes.j1, impl_frameBytes.j2, impl_frameBytes.j3, if_true, if_false, Option.bind_some, Bool.false_eq_true, reduceCtorEq, beq_self_eq_true, Int.reduceEq, Int.reduceBEq, Int.reduceMod, Int.reduceLT, Int.reduceLE, show Int.toNat 0 = 0 from rfl, List.set_cons_zero, show Go.bits .or .u8 (rd [10] 0) 1 = 11 by decide +kernel])
      | refine Ev_ite (fun _ => ?_) (fun c => absurd (by simp) c)
      | simp only [Option.bind_some, show Int.toNat 0 = 0 from rfl, List.set_cons_zero, show Go.bits .or .u8 (rd [10] 0) 1 = 11 by decide +kernel]
  · simp <;> omega
include hA hB hx in
theorem same_8_true_1 (h0 : ¬ B = 0) : Same 8 A B C true x y z ([15] ++ pv A ++ pv B ++ pv (x.length : Int) ++ x) := by
  have pA := pv_len A hA.2
  have pB := pv_len B hB.2
  have pX := pv_len (x.length : Int) (by omega)
  refine ⟨fun hS => ?_, ?_, ?_⟩
  · simp only [spec_FrameBytes.f]
    refine Ev.bind hS ?_
    simp only [if_true, if_false, Option.bind_some, Bool.false_eq_true, reduceCtorEq, beq_self_eq_true, Int.reduceEq, Int.reduceBEq, Int.reduceMod, Int.reduceLT, Int.reduceLE]
    repeat' first
      | exact Ev_now (by simp)
      | refine Ev.bind (n_ev _ _ hA (by simp)) ?_
      | refine Ev.bind (n_ev _ _ hB (by simp <;> omega)) ?_
      | refine Ev.bind (counted_ev _ _ (by simp <;> omega) hx) ?_
      | (refine Ev.step (fun k => rfl) ?_; simp only [spec_FrameBytes.j0, spec_FrameBytes.j1, spec_FrameBytes.j2, spec_FrameBytes.j3, spec_FrameBytes.j4, if_true, if_false, Option.bind_some, Bool.false_eq_true, reduceCtorEq, beq_self_eq_true, Int.reduceEq, Int.reduceBEq, Int.reduceMod, Int.reduceLT, Int.reduceLE, h0, Int.reduceAdd, show wrap64 14 = 14 by decide +kernel, show wrap64 15 = 15 by decide +kernel])
  · simp only [impl_frameBytes.f, if_true, if_false, Option.bind_some, Bool.false_eq_true, reduceCtorEq, beq_self_eq_true, Int.reduceEq, Int.reduceBEq, Int.reduceMod, Int.reduceLT, Int.reduceLE]
    repeat' first
      | exact Ev_now (by simp)
      | refine Ev.bind (addVar_ev' _ _ hA (by simp)) ?_
      | refine Ev.bind (addVar_ev' _ _ hB (by simp <;> omega)) ?_
      | refine Ev.bind (addCounted_ev _ _ (by simp <;> omega) hx) ?_
      | (refine Ev.step (fun k => rfl) ?_; simp only [impl_frameBytes.j1, impl_frameBytes.j2, impl_frameBytes.j3, if_true, if_false, Option.bind_some, Bool.false_eq_true, reduceCtorEq, beq_self_eq_true, Int.reduceEq, Int.reduceBEq, Int.reduceMod, Int.reduceLT, Int.reduceLE, h0, show Int.toNat 0 = 0 from rfl, List.set_cons_zero, show Go.bits .or .u8 (rd [10] 0) 4 = 14 by decide +kernel, show Go.bits .or .u8 (rd [14] 0) 1 = 15 by decide +kernel])
      | refine Ev_ite (fun _ => ?_) (fun c => absurd (by simp) c)
      | simp only [Option.bind_some, h0, if_false, show Int.toNat 0 = 0 from rfl, List.set_cons_zero, show Go.bits .or .u8 (rd [10] 0) 4 = 14 by decide +kernel, show Go.bits .or .u8 (rd [14] 0) 1 = 15 by decide +kernel]
  · simp <;> omega
include hA in
theorem same_2 (h1 : 0 < z.length) (h2 : z.length ≤ 64) (G : ∀ j, j < z.length → Good z j) : ∃ w, Same 2 A B C f x y z w := by
  obtain ⟨m, hm⟩ : ∃ m, z.length = m + 1 := ⟨z.length - 1, by omega⟩
  have hml : m < z.length := by omega
  obtain ⟨a1, a2, a3, _⟩ := G m hml
  have e1 : wrap64 ((z.length : Int) - 1) = (m : Int) := by rw [w64 (by omega) (by omega)]; omega
  have e2 : wrap64 ((z.length : Int) - 2) = (m : Int) - 1 := by rw [w64 (by omega) (by omega)]; omega
  have e3 : wrap64 ((m : Int) - 1) = (m : Int) - 1 := w64 (by omega) (by omega)
  have e4 : wrap64 ((rd_T105 z (m : Int)).f1 - (rd_T105 z (m : Int)).f0) = (rd_T105 z (m : Int)).f1 - (rd_T105 z (m : Int)).f0 := w64 (by omega) (by omega)
  have v1 : 0 ≤ (rd_T105 z (m : Int)).f1 ∧ (rd_T105 z (m : Int)).f1 ≤ 4611686018427387903 := by omega
  have v2 : 0 ≤ (m : Int) ∧ (m : Int) ≤ 4611686018427387903 := by omega
  have v3 : 0 ≤ (rd_T105 z (m : Int)).f1 - (rd_T105 z (m : Int)).f0 ∧ (rd_T105 z (m : Int)).f1 - (rd_T105 z (m : Int)).f0 ≤ 4611686018427387903 := by omega
  have p1 := pv_len _ v1.2
  have p2 := pv_len _ v2.2
  have p3 := pv_len _ v3.2
  have pA := pv_len A hA.2
  have c1 : (0 : Int) ≤ (m : Int) := by omega
  have c2 : (m : Int) < (z.length : Int) := by omega
  have ht := ackT_length z G m hml
  refine ⟨([2] ++ pv (rd_T105 z (m : Int)).f1 ++ pv A ++ pv (m : Int) ++ pv ((rd_T105 z (m : Int)).f1 - (rd_T105 z (m : Int)).f0)) ++ ackT z m, fun hS => ?_, ?_, ?_⟩
  · simp only [spec_FrameBytes.f]
    refine Ev.bind hS ?_
    simp only [if_true, if_false, Option.bind_some, Int.reduceEq]
    have H : Ev (fun k => spec_l05AckBytes.f k 2 A B C f x y z) (([2] ++ pv (rd_T105 z (m : Int)).f1 ++ pv A ++ pv (m : Int) ++ pv ((rd_T105 z (m : Int)).f1 - (rd_T105 z (m : Int)).f0)) ++ ackT z m) := by
      simp only [spec_l05AckBytes.f, e1, e3, e4, c1, c2, if_true]
      refine Ev.bind (n_ev _ _ v1 (by simp)) ?_
      refine Ev.bind (n_ev _ _ hA (by simp <;> omega)) ?_
      refine Ev.bind (n_ev _ _ v2 (by simp <;> omega)) ?_
      refine Ev.bind (n_ev _ _ v3 (by simp <;> omega)) ?_
      exact sAck_loop 2 A B C f x y z h2 G m _ hml (by simp <;> omega)
    exact Ev.bind H (Ev.now _)
  · simp only [impl_frameBytes.f, if_true, if_false, Option.bind_some, Int.reduceEq, e1, e2, e4, c1, c2, Int.reduceMod]
    refine Ev.bind (addVars_ev _ _ (by simp only [List.mem_cons, List.not_mem_nil, or_false]; rintro v (rfl | rfl | rfl | rfl) <;> assumption) (by simp) (by simp)) ?_
    refine Ev_cast (iAck_loop 2 A B C f x y z h2 G m _ hml (by simp <;> omega)) ?_
    simp
  · simp <;> omega
end
theorem same (a A B C : Int) (f : Bool) (x y : List Int) (z : List S105) (h : Right a A B C z) (hx : x.length ≤ 1048576) (hy : y.length ≤ 1048576) : ∃ w, Same a A B C f x y z w := by
  obtain ⟨hK, hA, hB, hC, h0, h18, h2⟩ := h
  unfold Known at hK
  rcases hK with rfl | rfl | rfl | rfl | rfl | rfl | rfl | rfl | rfl | rfl | rfl | rfl | rfl | rfl | rfl | rfl | rfl | rfl | rfl | rfl | rfl | rfl
  · exact ⟨_, same_0 A B C f x y z hA (h0 rfl)⟩
  · exact ⟨[1], same_plain A B C f x y z hA hB hC hx hy _ _ (by simp)⟩
  · exact same_2 A B C f x y z hA (h2 rfl).1 (h2 rfl).2.1 (h2 rfl).2.2
  · exact ⟨[4] ++ pv A ++ pv B ++ pv C, same_plain A B C f x y z hA hB hC hx hy _ _ (by simp)⟩
  · exact ⟨[5] ++ pv A ++ pv B, same_plain A B C f x y z hA hB hC hx hy _ _ (by simp)⟩
  · exact ⟨[6] ++ pv A ++ pv (x.length : Int) ++ x, same_plain A B C f x y z hA hB hC hx hy _ _ (by simp)⟩
  · exact ⟨[7] ++ pv (x.length : Int) ++ x, same_plain A B C f x y z hA hB hC hx hy _ _ (by simp)⟩
  · by_cases b : B = 0
    · subst b
      cases f
      · exact ⟨_, same_8_false_0 A C x y z hA hx⟩
      · exact ⟨_, same_8_true_0 A C x y z hA hx⟩
    · cases f
      · exact ⟨_, same_8_false_1 A B C x y z hA hB hx b⟩
      · exact ⟨_, same_8_true_1 A B C x y z hA hB hx b⟩
  · exact ⟨[16] ++ pv A, same_plain A B C f x y z hA hB hC hx hy _ _ (by simp)⟩
  · exact ⟨[17] ++ pv A ++ pv B, same_plain A B C f x y z hA hB hC hx hy _ _ (by simp)⟩
  · rcases (show B = 0 ∨ B = 1 by have := h18 (by simp); omega) with rfl | rfl
    · exact ⟨_, same_18_0 A C f x y z hA⟩
    · exact ⟨_, same_18_1 A C f x y z hA⟩
  · exact ⟨[20] ++ pv A, same_plain A B C f x y z hA hB hC hx hy _ _ (by simp)⟩
  · exact ⟨[21] ++ pv A ++ pv B, same_plain A B C f x y z hA hB hC hx hy _ _ (by simp)⟩
  · rcases (show B = 0 ∨ B = 1 by have := h18 (by simp); omega) with rfl | rfl
    · exact ⟨_, same_22_0 A C f x y z hA⟩
    · exact ⟨_, same_22_1 A C f x y z hA⟩
  · exact ⟨[24] ++ pv A ++ pv B ++ [(x.length : Int) % 256] ++ x ++ y, same_plain A B C f x y z hA hB hC hx hy _ _ (by simp)⟩
  · exact ⟨[25] ++ pv A, same_plain A B C f x y z hA hB hC hx hy _ _ (by simp)⟩
  · exact ⟨[26] ++ x, same_plain A B C f x y z hA hB hC hx hy _ _ (by simp)⟩
  · exact ⟨[27] ++ x, same_plain A B C f x y z hA hB hC hx hy _ _ (by simp)⟩
  · exact ⟨[28] ++ pv A ++ pv B ++ pv (x.length : Int) ++ x, same_plain A B C f x y z hA hB hC hx hy _ _ (by simp)⟩
  · exact ⟨[29] ++ pv A ++ pv (x.length : Int) ++ x, same_plain A B C f x y z hA hB hC hx hy _ _ (by simp)⟩
  · exact ⟨[30], same_plain A B C f x y z hA hB hC hx hy _ _ (by simp)⟩
  · exact ⟨[49] ++ pv (x.length : Int) ++ x, same_plain A B C f x y z hA hB hC hx hy _ _ (by simp)⟩
/-- Both answer, and the same. -/
theorem both (a : Int) (wa : (Lit.int .i64 a).wf = true) (A B C : Int) (f : Bool) (x y : List Int) (z : List S105) (hx : x.length ≤ 1048576) (hy : y.length ≤ 1048576) (hz : z.length ≤ 1048576) :
    ∃ w e, Ev (fun k => spec_FrameBytes.f k a A B C f x y z) (w, e) ∧ Ev (fun k => impl_FrameBytes.f k a A B C f x y z) (w, e) ∧ w.length ≤ 3000000 := by
  obtain ⟨r, h1, h2, h3⟩ := frame_both a wa A B C f x y z hz
  cases r with
  | false =>
    refine ⟨[], 1, ?_, ?_, by simp⟩
    · simp only [spec_FrameBytes.f]
      refine Ev.bind h1 ?_
      simp only [Bool.false_eq_true, if_false]
      exact Ev.now _
    · simp only [impl_FrameBytes.f]
      refine Ev.bind h2 ?_
      simp only [Bool.false_eq_true, if_false]
      exact Ev.now _
  | true =>
    obtain ⟨w, hs, hi, hl⟩ := same a A B C f x y z (h3 rfl) hx hy
    refine ⟨w, 0, hs h1, ?_, hl⟩
    simp only [impl_FrameBytes.f]
    refine Ev.bind h2 ?_
    simp only [if_true]
    exact Ev.bind hi (Ev.now _)

theorem FnExactFrameBytes (a A B C : Int) (f : Bool) (x y : List Int) (z : List S107) (qa : (Lit.int .i64 a).wf = true) (qA : (Lit.int .i64 A).wf = true) (qB : (Lit.int .i64 B).wf = true) (qC : (Lit.int .i64 C).wf = true) (qx : x.length ≤ maxLen ∧ ∀ b ∈ x, (Lit.int .u8 b).wf = true) (qy : y.length ≤ maxLen ∧ ∀ b ∈ y, (Lit.int .u8 b).wf = true) (qz : z.length ≤ maxLen ∧ ∀ r ∈ z, (Lit.int .i64 r.f0).wf = true ∧ (Lit.int .i64 r.f1).wf = true) : ∃ k, laws_FnExactFrameBytes.f k a A B C f x y z = some true := by
  refine Ev.rounds (g := fun k => laws_FnExactFrameBytes.f k a A B C f x y z) ?_
  simp only [laws_FnExactFrameBytes.f]
  obtain ⟨t, ht, ht'⟩ := szFrame_ev a A B C f x y z 1048576 (by decide) (by decide) qx.1 qy.1 qz.1
  simp only [ht, Option.bind_some]
  refine Ev_ite (fun _ => Ev.now _) (fun c => ?_)
  obtain ⟨zx, zy, zz⟩ := ht'.resolve_left c
  have zz' : (z.map conv).length ≤ 1048576 := by rw [List.length_map]; exact zz
  obtain ⟨w, e, hs, hi, hw⟩ := both a qa A B C f x y (z.map conv) zx zy zz'
  repeat' first
    | exact Ev.now _
    | refine Ev.bind hs ?_
    | refine Ev.bind hi ?_
    | refine Ev.bind (toFrame_ev a A B C f x y z zx zy zz) ?_
    | refine Ev.bind (eqFrame_ev a A B C f x y (z.map conv) (by omega) (by omega) (by omega)) ?_
    | refine Ev.bind (markFrame_ev a A B C f x y (z.map conv) _ (by omega) (by omega) zx zy zz') ?_
    | refine Ev.bind (eqByteS_ev _ (by omega)) ?_
    | refine Ev.bind (markByteS_ev _ _ (by omega) (by omega)) ?_
    | refine Ev.bind (heldByteS_ev _ _ (by omega) (by omega)) ?_
    | simp only [if_true, if_false, bne_self_eq_false, Bool.false_eq_true, Bool.not_true, marks_length]
    | (refine Ev.step (fun k => rfl) ?_; simp only [laws_FnExactFrameBytes.j0, laws_FnExactFrameBytes.j1, laws_FnExactFrameBytes.j2])
    | refine Ev_ite (fun c => absurd c (by omega)) (fun _ => ?_)

end Go.Proofs.Ytdojcdhlcnlohaa.Pure
