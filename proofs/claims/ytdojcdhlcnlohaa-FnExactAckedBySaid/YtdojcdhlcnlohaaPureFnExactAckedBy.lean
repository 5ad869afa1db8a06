/- For all frames and lists: the program's AckedBy and the reference's tell the same, in memory of their own. -/
import Derived.Test.YtdojcdhlcnlohaaSFnExactAckedByx13
import Derived.Test.YtdojcdhlcnlohaaAMath
namespace Go.Proofs.Ytdojcdhlcnlohaa.Pure
open Go.RowKit Go.Proofs.Ytdojcdhlcnlohaa.SFnExactAckedBy Go.Proofs.YtdojcdhlcnlohaaW.PrintWords Go.Proofs.YtdojcdhlcnlohaaW.PrintLast Go.Proofs.YtdojcdhlcnlohaaW.PrintMore Go.Proofs.Ytdojcdhlcnlohaa.Math
set_option linter.unusedVariables false
set_option linter.unusedSimpArgs false

theorem toByteS_loop (l : List Int) (hl : l.length ≤ 281474976710656) (n : Nat) : ∀ (x : List Int) (i : Nat), l.length - i = n → i ≤ l.length → x.length = l.length → (∀ j, j < i → x[j]? = l[j]?) → Ev (fun k => laws_toByteS.l0 k l x (i : Int)) l := by
  induction n with
  | zero =>
    intro x i hn hi hx h
    refine Ev.step (fun k => rfl) ?_
    simp only [laws_toByteS.l0, show ¬ ((i : Int) < (l.length : Int)) by omega, if_false]
    exact Ev_now (prefix_all hx (fun j hj => h j (by omega)))
  | succ n ih =>
    intro x i hn hi hx h
    have hil : i < l.length := by omega
    have H := ih (x.set i (rd l (i : Int))) (i + 1) (by omega) (by omega) (by rw [List.length_set]; exact hx) (set_prefix hx (rd_get l hil) h)
    refine Ev.step (fun k => rfl) ?_
    simp only [laws_toByteS.l0, show ((i : Int) < (l.length : Int)) by omega, show (0 : Int) ≤ (i : Int) by omega, show ((i : Int) < (x.length : Int)) by omega, if_true, Int.toNat_natCast, next64 (show i < 4611686018427387904 by omega)]
    exact H
theorem toByteS_ev (l : List Int) (hl : l.length ≤ 281474976710656) : Ev (fun k => laws_toByteS.f k l) l := by
  simp only [laws_toByteS.f, show (0 : Int) ≤ (l.length : Int) by omega, if_true, Int.toNat_natCast, hl]
  exact toByteS_loop l hl l.length _ 0 (by omega) (by omega) (by simp) (fun j hj => by omega)
theorem eqByteS_loop (l : List Int) (hl : l.length ≤ 281474976710656) (n : Nat) : ∀ (i : Nat), l.length - i = n → i ≤ l.length → Ev (fun k => laws_eqByteS.l0 k l l (i : Int)) true := by
  induction n with
  | zero =>
    intro i hn hi
    refine Ev.step (fun k => rfl) ?_
    simp only [laws_eqByteS.l0, show ¬ ((i : Int) < (l.length : Int)) by omega, if_false]
    exact Ev.now _
  | succ n ih =>
    intro i hn hi
    have H := ih (i + 1) (by omega) (by omega)
    refine Ev.step (fun k => rfl) ?_
    simp only [laws_eqByteS.l0, show ((i : Int) < (l.length : Int)) by omega, show (0 : Int) ≤ (i : Int) by omega, if_true, next64 (show i < 4611686018427387904 by omega)]
    exact H
theorem eqByteS_ev (l : List Int) (hl : l.length ≤ 281474976710656) : Ev (fun k => laws_eqByteS.f k l l) true := by
  simp only [laws_eqByteS.f, if_true]
  exact eqByteS_loop l hl l.length 0 (by omega) (by omega)
theorem rdR_some {l : List S105} {i : Nat} {v : S105} (h : l[i]? = some v) : rd_T105 l (i : Int) = v := by
  unfold rd_T105; rw [Int.toNat_natCast, List.getD_eq_getElem?_getD, h]; rfl
theorem rdR_get (l : List S105) {i : Nat} (h : i < l.length) : l[i]? = some (rd_T105 l (i : Int)) := by
  have e := List.getElem?_eq_getElem h
  rw [rdR_some e]; exact e
theorem rdW_some {l : List S107} {i : Nat} {v : S107} (h : l[i]? = some v) : rd_T107 l (i : Int) = v := by
  unfold rd_T107; rw [Int.toNat_natCast, List.getD_eq_getElem?_getD, h]; rfl
theorem rdW_get (l : List S107) {i : Nat} (h : i < l.length) : l[i]? = some (rd_T107 l (i : Int)) := by
  have e := List.getElem?_eq_getElem h
  rw [rdW_some e]; exact e
/-- A range of the laws' package, in the program's. -/
def conv (x : S107) : S105 := ⟨x.f0, x.f1⟩
theorem szRangeS_at (l : List S107) (m : Int) (hl : l.length ≤ maxLen) (hm : 0 ≤ m ∧ m ≤ 1048576) : (m < l.length ∧ laws_szRangeS.f l m = some (-1)) ∨ (l.length ≤ m ∧ laws_szRangeS.f l m = some (m - l.length)) := by
  unfold maxLen at hl
  unfold laws_szRangeS.f
  rw [w64 (by omega) (by omega)]
  by_cases h : m - (l.length : Int) < 0
  · rw [if_pos h]; exact .inl ⟨by omega, rfl⟩
  · rw [if_neg h]; exact .inr ⟨by omega, rfl⟩
theorem toRangeS_loop (l : List S107) (hl : l.length ≤ 1048576) (n : Nat) : ∀ (x : List S105) (i : Nat), l.length - i = n → i ≤ l.length → x.length = l.length → (∀ j, j < i → x[j]? = (l.map conv)[j]?) → Ev (fun k => laws_toRangeS.l0 k l x (i : Int)) (l.map conv) := by
  induction n with
  | zero =>
    intro x i hn hi hx h
    refine Ev.step (fun k => rfl) ?_
    simp only [laws_toRangeS.l0, show ¬ ((i : Int) < (l.length : Int)) by omega, if_false]
    exact Ev_now (prefix_all (by rw [List.length_map]; exact hx) (fun j hj => h j (by rw [List.length_map] at hj; omega)))
  | succ n ih =>
    intro x i hn hi hx h
    have hil : i < l.length := by omega
    have H := ih (x.set i (conv (rd_T107 l (i : Int)))) (i + 1) (by omega) (by omega) (by rw [List.length_set]; exact hx) (set_prefix (by rw [List.length_map]; exact hx) (by rw [List.getElem?_map, rdW_get l hil]; rfl) h)
    refine Ev.step (fun k => rfl) ?_
    simp only [laws_toRangeS.l0, laws_toRange.f, Option.bind_some, show ((i : Int) < (l.length : Int)) by omega, show (0 : Int) ≤ (i : Int) by omega, show ((i : Int) < (x.length : Int)) by omega, if_true, Int.toNat_natCast, next64 (show i < 4611686018427387904 by omega)]
    exact H
theorem toRangeS_ev (l : List S107) (hl : l.length ≤ 1048576) : Ev (fun k => laws_toRangeS.f k l) (l.map conv) := by
  simp only [laws_toRangeS.f, show (0 : Int) ≤ (l.length : Int) by omega, if_true, Int.toNat_natCast, show l.length ≤ 17592186044416 by omega]
  exact toRangeS_loop l hl l.length _ 0 (by omega) (by omega) (by simp) (fun j hj => by omega)
theorem eqRangeS_loop (l : List S105) (hl : l.length ≤ 281474976710656) (n : Nat) : ∀ (i : Nat), l.length - i = n → i ≤ l.length → Ev (fun k => laws_eqRangeS.l0 k l l (i : Int)) true := by
  induction n with
  | zero =>
    intro i hn hi
    refine Ev.step (fun k => rfl) ?_
    simp only [laws_eqRangeS.l0, show ¬ ((i : Int) < (l.length : Int)) by omega, if_false]
    exact Ev.now _
  | succ n ih =>
    intro i hn hi
    have H := ih (i + 1) (by omega) (by omega)
    refine Ev.step (fun k => rfl) ?_
    simp only [laws_eqRangeS.l0, laws_eqRange.f, Option.bind_some, show ((i : Int) < (l.length : Int)) by omega, show (0 : Int) ≤ (i : Int) by omega, if_true, next64 (show i < 4611686018427387904 by omega)]
    exact H
theorem eqRangeS_ev (l : List S105) (hl : l.length ≤ 281474976710656) : Ev (fun k => laws_eqRangeS.f k l l) true := by
  simp only [laws_eqRangeS.f, if_true]
  exact eqRangeS_loop l hl l.length 0 (by omega) (by omega)
/-- Range number j of a list is right, and lies behind the one ahead of it. -/
def Good (l : List S105) (j : Nat) : Prop :=
  0 ≤ (rd_T105 l (j : Int)).f0 ∧ (rd_T105 l (j : Int)).f0 ≤ (rd_T105 l (j : Int)).f1 ∧ (rd_T105 l (j : Int)).f1 ≤ 4611686018427387903 ∧ (0 < j → wrap64 ((rd_T105 l ((j : Int) - 1)).f1 + 1) < (rd_T105 l (j : Int)).f0)
theorem inVar_eq (a : Int) : impl_inVar.f a = some (decide (0 ≤ a ∧ a ≤ 4611686018427387903)) := by
  unfold impl_inVar.f
  by_cases h : a ≥ 0
  · rw [if_pos h]; exact congrArg some (by rw [decide_eq_decide]; omega)
  · rw [if_neg h]; exact congrArg some (decide_eq_false (by omega)).symm
theorem ok_loop (l : List S105) (hl : l.length ≤ 1048576) (n : Nat) : ∀ i : Nat, l.length - i = n → i ≤ l.length →
    ∃ b, Ev (fun k => spec_l05RangesOK.l0 k l (i : Int)) b ∧ Ev (fun k => impl_rangesOK.l0 k l l (l.length : Int) (i : Int)) b ∧ (b = true → ∀ j, i ≤ j → j < l.length → Good l j) := by
  induction n with
  | zero =>
    intro i hn hi
    refine ⟨true, ?_, ?_, fun _ j h1 h2 => by omega⟩
    · refine Ev.step (fun k => rfl) ?_
      simp only [spec_l05RangesOK.l0, show ¬ ((i : Int) < (l.length : Int)) by omega, if_false]
      exact Ev.now _
    · refine Ev.step (fun k => rfl) ?_
      simp only [impl_rangesOK.l0, show ¬ ((i : Int) < (l.length : Int)) by omega, if_false]
      exact Ev.now _
  | succ n ih =>
    intro i hn hi
    have bad : ∀ (h : ¬ Good l i), Ev (fun k => spec_l05RangesOK.l0 k l (i : Int)) false ∧ Ev (fun k => impl_rangesOK.l0 k l l (l.length : Int) (i : Int)) false → ∃ b, Ev (fun k => spec_l05RangesOK.l0 k l (i : Int)) b ∧ Ev (fun k => impl_rangesOK.l0 k l l (l.length : Int) (i : Int)) b ∧ (b = true → ∀ j, i ≤ j → j < l.length → Good l j) :=
      fun _ h => ⟨false, h.1, h.2, fun h => by cases h⟩
    obtain ⟨b, hs, hi', hb⟩ := ih (i + 1) (by omega) (by omega)
    by_cases c1 : 0 ≤ (rd_T105 l (i : Int)).f0 ∧ (rd_T105 l (i : Int)).f0 ≤ (rd_T105 l (i : Int)).f1 ∧ (rd_T105 l (i : Int)).f1 ≤ 4611686018427387903
    · by_cases c2 : 0 < i
      · by_cases c3 : (rd_T105 l (i : Int)).f0 ≤ wrap64 ((rd_T105 l ((i : Int) - 1)).f1 + 1)
        · refine bad (fun h => by have := h.2.2.2 c2; omega) ⟨?_, ?_⟩
          · refine Ev.step (fun k => rfl) ?_
            simp only [spec_l05RangesOK.l0, show ((i : Int) < (l.length : Int)) by omega, show (0 : Int) ≤ (i : Int) by omega, show ¬ ((rd_T105 l (i : Int)).f0 < 0) by omega, show ¬ ((rd_T105 l (i : Int)).f1 > 4611686018427387903) by omega, show ¬ ((rd_T105 l (i : Int)).f0 > (rd_T105 l (i : Int)).f1) by omega, show (i : Int) > 0 by omega, w64 (x := (i : Int) - 1) (by omega) (by omega), show (0 : Int) ≤ (i : Int) - 1 by omega, show (i : Int) - 1 < (l.length : Int) by omega, if_true, if_false, c3]
            exact Ev.now _
          · refine Ev.step (fun k => rfl) ?_
            simp only [impl_rangesOK.l0, inVar_eq, Option.bind_some, show ((i : Int) < (l.length : Int)) by omega, show (0 : Int) ≤ (i : Int) by omega, show (0 ≤ (rd_T105 l (i : Int)).f0 ∧ (rd_T105 l (i : Int)).f0 ≤ 4611686018427387903) by omega, show (0 ≤ (rd_T105 l (i : Int)).f1 ∧ (rd_T105 l (i : Int)).f1 ≤ 4611686018427387903) by omega, show ¬ ((rd_T105 l (i : Int)).f0 > (rd_T105 l (i : Int)).f1) by omega, and_self, decide_true, show (i : Int) > 0 by omega, w64 (x := (i : Int) - 1) (by omega) (by omega), show (0 : Int) ≤ (i : Int) - 1 by omega, show (i : Int) - 1 < (l.length : Int) by omega, if_true, if_false, c3]
            exact Ev.now _
        · refine ⟨b, ?_, ?_, fun h j h1 h2 => ?_⟩
          · refine Ev.step (fun k => rfl) ?_
            simp only [spec_l05RangesOK.l0, show ((i : Int) < (l.length : Int)) by omega, show (0 : Int) ≤ (i : Int) by omega, show ¬ ((rd_T105 l (i : Int)).f0 < 0) by omega, show ¬ ((rd_T105 l (i : Int)).f1 > 4611686018427387903) by omega, show ¬ ((rd_T105 l (i : Int)).f0 > (rd_T105 l (i : Int)).f1) by omega, show (i : Int) > 0 by omega, w64 (x := (i : Int) - 1) (by omega) (by omega), show (0 : Int) ≤ (i : Int) - 1 by omega, show (i : Int) - 1 < (l.length : Int) by omega, if_true, if_false, c3, next64 (show i < 4611686018427387904 by omega)]
            exact hs
          · refine Ev.step (fun k => rfl) ?_
            simp only [impl_rangesOK.l0, inVar_eq, Option.bind_some, show ((i : Int) < (l.length : Int)) by omega, show (0 : Int) ≤ (i : Int) by omega, show (0 ≤ (rd_T105 l (i : Int)).f0 ∧ (rd_T105 l (i : Int)).f0 ≤ 4611686018427387903) by omega, show (0 ≤ (rd_T105 l (i : Int)).f1 ∧ (rd_T105 l (i : Int)).f1 ≤ 4611686018427387903) by omega, show ¬ ((rd_T105 l (i : Int)).f0 > (rd_T105 l (i : Int)).f1) by omega, and_self, decide_true, show (i : Int) > 0 by omega, w64 (x := (i : Int) - 1) (by omega) (by omega), show (0 : Int) ≤ (i : Int) - 1 by omega, show (i : Int) - 1 < (l.length : Int) by omega, if_true, if_false, c3, next64 (show i < 4611686018427387904 by omega)]
            exact hi'
          · by_cases e : j = i
            · subst e; exact ⟨c1.1, c1.2.1, c1.2.2, fun _ => by omega⟩
            · exact hb h j (by omega) h2
      · refine ⟨b, ?_, ?_, fun h j h1 h2 => ?_⟩
        · refine Ev.step (fun k => rfl) ?_
          simp only [spec_l05RangesOK.l0, show ((i : Int) < (l.length : Int)) by omega, show (0 : Int) ≤ (i : Int) by omega, show ¬ ((rd_T105 l (i : Int)).f0 < 0) by omega, show ¬ ((rd_T105 l (i : Int)).f1 > 4611686018427387903) by omega, show ¬ ((rd_T105 l (i : Int)).f0 > (rd_T105 l (i : Int)).f1) by omega, show ¬ ((i : Int) > 0) by omega, if_true, if_false, next64 (show i < 4611686018427387904 by omega)]
          exact hs
        · refine Ev.step (fun k => rfl) ?_
          simp only [impl_rangesOK.l0, inVar_eq, Option.bind_some, show ((i : Int) < (l.length : Int)) by omega, show (0 : Int) ≤ (i : Int) by omega, show (0 ≤ (rd_T105 l (i : Int)).f0 ∧ (rd_T105 l (i : Int)).f0 ≤ 4611686018427387903) by omega, show (0 ≤ (rd_T105 l (i : Int)).f1 ∧ (rd_T105 l (i : Int)).f1 ≤ 4611686018427387903) by omega, show ¬ ((rd_T105 l (i : Int)).f0 > (rd_T105 l (i : Int)).f1) by omega, and_self, decide_true, show ¬ ((i : Int) > 0) by omega, if_true, if_false, next64 (show i < 4611686018427387904 by omega)]
          exact hi'
        · by_cases e : j = i
          · subst e; exact ⟨c1.1, c1.2.1, c1.2.2, fun h => by omega⟩
          · exact hb h j (by omega) h2
    · refine bad (fun h => c1 ⟨h.1, h.2.1, h.2.2.1⟩) ⟨?_, ?_⟩
      · refine Ev.step (fun k => rfl) ?_
        simp only [spec_l05RangesOK.l0, show ((i : Int) < (l.length : Int)) by omega, show (0 : Int) ≤ (i : Int) by omega, if_true]
        refine Ev_ite (fun _ => Ev.now _) (fun d1 => ?_)
        refine Ev_ite (fun _ => Ev.now _) (fun d2 => ?_)
        refine Ev_ite (fun _ => Ev.now _) (fun d3 => ?_)
        omega
      · refine Ev.step (fun k => rfl) ?_
        simp only [impl_rangesOK.l0, inVar_eq, Option.bind_some, show ((i : Int) < (l.length : Int)) by omega, show (0 : Int) ≤ (i : Int) by omega, if_true, decide_eq_true_eq]
        refine Ev_ite (fun _ => Ev.now _) (fun d1 => ?_)
        refine Ev_ite (fun d2 => ?_) (fun _ => Ev.now _)
        refine Ev_ite (fun d3 => ?_) (fun _ => Ev.now _)
        omega
/-- Both tell the same of a list; where they say yes, it is short and each range is right. -/
theorem ok_both (l : List S105) (hl : l.length ≤ 1048576) : ∃ b, Ev (fun k => spec_l05RangesOK.f k l) b ∧ Ev (fun k => impl_rangesOK.f k l) b ∧ (b = true → l.length ≤ 64 ∧ ∀ j, j < l.length → Good l j) := by
  simp only [spec_l05RangesOK.f, impl_rangesOK.f]
  by_cases h : (l.length : Int) > 64
  · simp only [h, if_true]; exact ⟨_, Ev.now _, Ev.now _, fun h => by cases h⟩
  · simp only [h, if_false]
    obtain ⟨b, hs, hi, hb⟩ := ok_loop l hl l.length 0 (by omega) (by omega)
    exact ⟨b, hs, hi, fun h => ⟨by omega, fun j hj => hb h j (by omega) hj⟩⟩
/-- The kinds. -/
def Known (a : Int) : Prop := a = 0 ∨ a = 1 ∨ a = 2 ∨ a = 4 ∨ a = 5 ∨ a = 6 ∨ a = 7 ∨ a = 8 ∨ a = 16 ∨ a = 17 ∨ a = 18 ∨ a = 20 ∨ a = 21 ∨ a = 22 ∨ a = 24 ∨ a = 25 ∨ a = 26 ∨ a = 27 ∨ a = 28 ∨ a = 29 ∨ a = 30 ∨ a = 48
/-- What the reference says of a kind. -/
def kdTab : List (Int × (Bool × Bool × Bool × Bool × Bool × Bool × Int × Int × Int)) :=
  [(0, true, true, false, false, false, false, 0, 0, 0),
   (1, true, false, false, false, false, false, 0, 0, 0),
   (2, true, true, false, false, false, true, 0, 0, 0),
   (4, true, true, true, true, false, false, 0, 0, 0),
   (5, true, true, true, false, false, false, 0, 0, 0),
   (6, true, true, false, false, false, false, 0, 1500, 0),
   (7, true, false, false, false, false, false, 1, 64, 0),
   (8, true, true, true, false, true, false, 0, 1500, 0),
   (16, true, true, false, false, false, false, 0, 0, 0),
   (17, true, true, true, false, false, false, 0, 0, 0),
   (18, true, true, true, false, false, false, 0, 0, 0),
   (20, true, true, false, false, false, false, 0, 0, 0),
   (21, true, true, true, false, false, false, 0, 0, 0),
   (22, true, true, true, false, false, false, 0, 0, 0),
   (24, true, true, true, false, false, false, 1, 8, 8),
   (25, true, true, false, false, false, false, 0, 0, 0),
   (26, true, false, false, false, false, false, 8, 8, 0),
   (27, true, false, false, false, false, false, 8, 8, 0),
   (28, true, true, true, false, false, false, 0, 200, 0),
   (29, true, true, false, false, false, false, 0, 200, 0),
   (30, true, false, false, false, false, false, 0, 0, 0),
   (48, true, false, false, false, false, false, 0, 1500, 0)]
theorem kind_known (a : Int) (h : Known a) : ∃ u, (a, u) ∈ kdTab ∧ Ev (fun k => spec_l05Kind.f k a) u ∧ u.1 = true ∧ shK a = true := by
  unfold Known at h
  rcases h with rfl | rfl | rfl | rfl | rfl | rfl | rfl | rfl | rfl | rfl | rfl | rfl | rfl | rfl | rfl | rfl | rfl | rfl | rfl | rfl | rfl | rfl
  · exact ⟨(true, true, false, false, false, false, 0, 0, 0), by simp [kdTab], Ev.of (spec_l05Kind.mono _) (k := 9) (by kernel_rfl), rfl, by decide +kernel⟩
  · exact ⟨(true, false, false, false, false, false, 0, 0, 0), by simp [kdTab], Ev.of (spec_l05Kind.mono _) (k := 9) (by kernel_rfl), rfl, by decide +kernel⟩
  · exact ⟨(true, true, false, false, false, true, 0, 0, 0), by simp [kdTab], Ev.of (spec_l05Kind.mono _) (k := 9) (by kernel_rfl), rfl, by decide +kernel⟩
  · exact ⟨(true, true, true, true, false, false, 0, 0, 0), by simp [kdTab], Ev.of (spec_l05Kind.mono _) (k := 9) (by kernel_rfl), rfl, by decide +kernel⟩
  · exact ⟨(true, true, true, false, false, false, 0, 0, 0), by simp [kdTab], Ev.of (spec_l05Kind.mono _) (k := 9) (by kernel_rfl), rfl, by decide +kernel⟩
  · exact ⟨(true, true, false, false, false, false, 0, 1500, 0), by simp [kdTab], Ev.of (spec_l05Kind.mono _) (k := 9) (by kernel_rfl), rfl, by decide +kernel⟩
  · exact ⟨(true, false, false, false, false, false, 1, 64, 0), by simp [kdTab], Ev.of (spec_l05Kind.mono _) (k := 9) (by kernel_rfl), rfl, by decide +kernel⟩
  · exact ⟨(true, true, true, false, true, false, 0, 1500, 0), by simp [kdTab], Ev.of (spec_l05Kind.mono _) (k := 9) (by kernel_rfl), rfl, by decide +kernel⟩
  · exact ⟨(true, true, false, false, false, false, 0, 0, 0), by simp [kdTab], Ev.of (spec_l05Kind.mono _) (k := 9) (by kernel_rfl), rfl, by decide +kernel⟩
  · exact ⟨(true, true, true, false, false, false, 0, 0, 0), by simp [kdTab], Ev.of (spec_l05Kind.mono _) (k := 9) (by kernel_rfl), rfl, by decide +kernel⟩
  · exact ⟨(true, true, true, false, false, false, 0, 0, 0), by simp [kdTab], Ev.of (spec_l05Kind.mono _) (k := 9) (by kernel_rfl), rfl, by decide +kernel⟩
  · exact ⟨(true, true, false, false, false, false, 0, 0, 0), by simp [kdTab], Ev.of (spec_l05Kind.mono _) (k := 9) (by kernel_rfl), rfl, by decide +kernel⟩
  · exact ⟨(true, true, true, false, false, false, 0, 0, 0), by simp [kdTab], Ev.of (spec_l05Kind.mono _) (k := 9) (by kernel_rfl), rfl, by decide +kernel⟩
  · exact ⟨(true, true, true, false, false, false, 0, 0, 0), by simp [kdTab], Ev.of (spec_l05Kind.mono _) (k := 9) (by kernel_rfl), rfl, by decide +kernel⟩
  · exact ⟨(true, true, true, false, false, false, 1, 8, 8), by simp [kdTab], Ev.of (spec_l05Kind.mono _) (k := 9) (by kernel_rfl), rfl, by decide +kernel⟩
  · exact ⟨(true, true, false, false, false, false, 0, 0, 0), by simp [kdTab], Ev.of (spec_l05Kind.mono _) (k := 9) (by kernel_rfl), rfl, by decide +kernel⟩
  · exact ⟨(true, false, false, false, false, false, 8, 8, 0), by simp [kdTab], Ev.of (spec_l05Kind.mono _) (k := 9) (by kernel_rfl), rfl, by decide +kernel⟩
  · exact ⟨(true, false, false, false, false, false, 8, 8, 0), by simp [kdTab], Ev.of (spec_l05Kind.mono _) (k := 9) (by kernel_rfl), rfl, by decide +kernel⟩
  · exact ⟨(true, true, true, false, false, false, 0, 200, 0), by simp [kdTab], Ev.of (spec_l05Kind.mono _) (k := 9) (by kernel_rfl), rfl, by decide +kernel⟩
  · exact ⟨(true, true, false, false, false, false, 0, 200, 0), by simp [kdTab], Ev.of (spec_l05Kind.mono _) (k := 9) (by kernel_rfl), rfl, by decide +kernel⟩
  · exact ⟨(true, false, false, false, false, false, 0, 0, 0), by simp [kdTab], Ev.of (spec_l05Kind.mono _) (k := 9) (by kernel_rfl), rfl, by decide +kernel⟩
  · exact ⟨(true, false, false, false, false, false, 0, 1500, 0), by simp [kdTab], Ev.of (spec_l05Kind.mono _) (k := 9) (by kernel_rfl), rfl, by decide +kernel⟩
theorem kind_unknown (a : Int) (h : ¬ Known a) : (∃ u, Ev (fun k => spec_l05Kind.f k a) u ∧ u.1 = false) ∧ shK a = false := by
  unfold Known at h
  simp only [not_or] at h
  obtain ⟨h0, h1, h2, h4, h5, h6, h7, h8, h16, h17, h18, h20, h21, h22, h24, h25, h26, h27, h28, h29, h30, h48⟩ := h
  have e0 : (a == 0) = false := beq_eq_false_iff_ne.mpr h0
  have e1 : (a == 1) = false := beq_eq_false_iff_ne.mpr h1
  have e2 : (a == 2) = false := beq_eq_false_iff_ne.mpr h2
  have e4 : (a == 4) = false := beq_eq_false_iff_ne.mpr h4
  have e5 : (a == 5) = false := beq_eq_false_iff_ne.mpr h5
  have e6 : (a == 6) = false := beq_eq_false_iff_ne.mpr h6
  have e7 : (a == 7) = false := beq_eq_false_iff_ne.mpr h7
  have e8 : (a == 8) = false := beq_eq_false_iff_ne.mpr h8
  have e16 : (a == 16) = false := beq_eq_false_iff_ne.mpr h16
  have e17 : (a == 17) = false := beq_eq_false_iff_ne.mpr h17
  have e18 : (a == 18) = false := beq_eq_false_iff_ne.mpr h18
  have e20 : (a == 20) = false := beq_eq_false_iff_ne.mpr h20
  have e21 : (a == 21) = false := beq_eq_false_iff_ne.mpr h21
  have e22 : (a == 22) = false := beq_eq_false_iff_ne.mpr h22
  have e24 : (a == 24) = false := beq_eq_false_iff_ne.mpr h24
  have e25 : (a == 25) = false := beq_eq_false_iff_ne.mpr h25
  have e26 : (a == 26) = false := beq_eq_false_iff_ne.mpr h26
  have e27 : (a == 27) = false := beq_eq_false_iff_ne.mpr h27
  have e28 : (a == 28) = false := beq_eq_false_iff_ne.mpr h28
  have e29 : (a == 29) = false := beq_eq_false_iff_ne.mpr h29
  have e30 : (a == 30) = false := beq_eq_false_iff_ne.mpr h30
  have e48 : (a == 48) = false := beq_eq_false_iff_ne.mpr h48
  refine ⟨⟨(false, false, false, false, false, false, 0, 0, 0), ?_, rfl⟩, ?_⟩
  · simp only [spec_l05Kind.f, h1, if_false, e30]
    refine Ev.step (fun k => rfl) ?_
    simp only [spec_l05Kind.j0, Bool.false_eq_true, if_false, h0, h16, h20, e25]
    refine Ev.step (fun k => rfl) ?_
    simp only [spec_l05Kind.j1, Bool.false_eq_true, if_false, h2, h4, h5, h17, h21, h18, e22]
    refine Ev.step (fun k => rfl) ?_
    simp only [spec_l05Kind.j2, Bool.false_eq_true, if_false, h6, h7, h8, h24, h26, e27]
    refine Ev.step (fun k => rfl) ?_
    simp only [spec_l05Kind.j3, Bool.false_eq_true, if_false, h28, h29, h48]
    exact Ev.now _
  · have g : ∀ c : Int, a ≠ c → decide (c = a) = false := fun c hc => decide_eq_false (fun e => hc e.symm)
    simp only [shK, shTab, List.any_cons, List.any_nil, g _ h0, g _ h1, g _ h2, g _ h4, g _ h5, g _ h6, g _ h7, g _ h8, g _ h16, g _ h17, g _ h18, g _ h20, g _ h21, g _ h22, g _ h24, g _ h25, g _ h26, g _ h27, g _ h28, g _ h29, g _ h30, g _ h48, Bool.or_false]
theorem kind1 (a : Int) : ∃ u, Ev (fun k => spec_l05Kind.f k a) u ∧ u.1 = shK a := by
  by_cases h : Known a
  · obtain ⟨u, _, hu, h1, h2⟩ := kind_known a h
    exact ⟨u, hu, by rw [h1, h2]⟩
  · obtain ⟨⟨u, hu, h1⟩, h2⟩ := kind_unknown a h
    exact ⟨u, hu, by rw [h1, h2]⟩
theorem shape_ok (a : Int) (w : (Lit.int .i64 a).wf = true) : impl_shapeOf.f a = some ((shV a).1, (shV a).2.1, (shV a).2.2.1, (shV a).2.2.2.1, (shV a).2.2.2.2.1, (shV a).2.2.2.2.2, shK a) := by
  unfold impl_shapeOf.f
  rw [if_pos w]
theorem szB (l : List Int) (a : Int) (h0 : 0 ≤ a) (h1 : a ≤ 1048576) (hl : l.length ≤ 9223372036854775807) : (laws_szByteS.f l a = some (-1) ∧ a < l.length) ∨ (laws_szByteS.f l a = some (a - l.length) ∧ l.length ≤ a) := by
  simp only [laws_szByteS.f, w64 (x := a - (l.length : Int)) (by omega) (by omega)]
  by_cases c : a - (l.length : Int) < 0
  · rw [if_pos c]; exact .inl ⟨rfl, by omega⟩
  · rw [if_neg c]; exact .inr ⟨rfl, by omega⟩
theorem markByteS_loop (m : Int) (N : Nat) (hm : 0 ≤ m) (hN : m + N ≤ 4611686018427387903) (n : Nat) : ∀ (x : List Int) (i : Nat), N - i = n → i ≤ N → x.length = N → (∀ j, j < i → x[j]? = (marks m N)[j]?) → Ev (fun k => laws_markByteS.l0 k x (m + i) (i : Int)) (m + N, marks m N) := by
  induction n with
  | zero =>
    intro x i hn hi hx h
    obtain rfl : i = N := by omega
    refine Ev.step (fun k => rfl) ?_
    simp only [laws_markByteS.l0, show ¬ ((i : Int) < (x.length : Int)) by omega, if_false]
    exact Ev_now (by rw [prefix_all (l := marks m i) (by rw [marks_length, hx]) (fun j hj => h j (by rw [marks_length] at hj; exact hj))])
  | succ n ih =>
    intro x i hn hi hx h
    have H := ih (x.set i ((m + i) % 256)) (i + 1) (by omega) (by omega) (by rw [List.length_set]; exact hx) (set_prefix (by rw [marks_length, hx]) (marks_get m (by omega)) h)
    rw [show m + ((i + 1 : Nat) : Int) = m + i + 1 by omega] at H
    refine Ev.step (fun k => rfl) ?_
    simp only [laws_markByteS.l0, show ((i : Int) < (x.length : Int)) by omega, show (0 : Int) ≤ (i : Int) by omega, if_true, Int.toNat_natCast, next64 (show i < 4611686018427387904 by omega), w64 (x := m + i + 1) (by omega) (by omega)]
    exact H
theorem markByteS_ev (x : List Int) (m : Int) (hm : 0 ≤ m) (hN : m + x.length ≤ 4611686018427387903) : Ev (fun k => laws_markByteS.f k x m) (m + x.length, marks m x.length) := by
  have H := markByteS_loop m x.length hm hN x.length x 0 (by omega) (by omega) rfl (fun j hj => by omega)
  rw [show m + ((0 : Nat) : Int) = m by omega] at H
  simp only [laws_markByteS.f]
  exact H
/-- What a marking leaves in ranges, numbered from m on. -/
def marksR (m : Int) (n : Nat) : List S105 := (List.range n).map fun j : Nat => ⟨m + 2 * (j : Int), m + 2 * (j : Int) + 1⟩
theorem marksR_length (m : Int) (n : Nat) : (marksR m n).length = n := by simp [marksR]
theorem marksR_get (m : Int) {n i : Nat} (h : i < n) : (marksR m n)[i]? = some ⟨m + 2 * i, m + 2 * i + 1⟩ := by simp [marksR, h]
theorem markRangeS_loop (m : Int) (N : Nat) (hm : 0 ≤ m) (hN : m + 2 * N ≤ 4611686018427387903) (n : Nat) : ∀ (x : List S105) (i : Nat), N - i = n → i ≤ N → x.length = N → (∀ j, j < i → x[j]? = (marksR m N)[j]?) → Ev (fun k => laws_markRangeS.l0 k x (m + 2 * i) (i : Int)) (m + 2 * N, marksR m N) := by
  induction n with
  | zero =>
    intro x i hn hi hx h
    obtain rfl : i = N := by omega
    refine Ev.step (fun k => rfl) ?_
    simp only [laws_markRangeS.l0, show ¬ ((i : Int) < (x.length : Int)) by omega, if_false]
    exact Ev_now (by rw [prefix_all (l := marksR m i) (by rw [marksR_length, hx]) (fun j hj => h j (by rw [marksR_length] at hj; exact hj))])
  | succ n ih =>
    intro x i hn hi hx h
    have H := ih (x.set i ⟨m + 2 * i, m + 2 * i + 1⟩) (i + 1) (by omega) (by omega) (by rw [List.length_set]; exact hx) (set_prefix (by rw [marksR_length, hx]) (marksR_get m (by omega)) h)
    rw [show m + 2 * ((i + 1 : Nat) : Int) = m + 2 * i + 1 + 1 by omega] at H
    refine Ev.step (fun k => rfl) ?_
    simp only [laws_markRangeS.l0, Option.bind_some, show ((i : Int) < (x.length : Int)) by omega, show (0 : Int) ≤ (i : Int) by omega, if_true, Int.toNat_natCast, next64 (show i < 4611686018427387904 by omega), w64 (x := m + 2 * i + 1) (by omega) (by omega), w64 (x := m + 2 * i + 1 + 1) (by omega) (by omega), List.set_set]
    rw [rdR_some (List.getElem?_set_self (show i < x.length by omega))]
    exact H
theorem markRangeS_ev (x : List S105) (m : Int) (hm : 0 ≤ m) (hN : m + 2 * x.length ≤ 4611686018427387903) : Ev (fun k => laws_markRangeS.f k x m) (m + 2 * x.length, marksR m x.length) := by
  have H := markRangeS_loop m x.length hm hN x.length x 0 (by omega) (by omega) rfl (fun j hj => by omega)
  rw [show m + 2 * ((0 : Nat) : Int) = m by omega] at H
  simp only [laws_markRangeS.f]
  exact H
theorem toIntS_loop (l : List Int) (hl : l.length ≤ 281474976710656) (n : Nat) : ∀ (x : List Int) (i : Nat), l.length - i = n → i ≤ l.length → x.length = l.length → (∀ j, j < i → x[j]? = l[j]?) → Ev (fun k => laws_toIntS.l0 k l x (i : Int)) l := by
  induction n with
  | zero =>
    intro x i hn hi hx h
    refine Ev.step (fun k => rfl) ?_
    simp only [laws_toIntS.l0, show ¬ ((i : Int) < (l.length : Int)) by omega, if_false]
    exact Ev_now (prefix_all hx (fun j hj => h j (by omega)))
  | succ n ih =>
    intro x i hn hi hx h
    have hil : i < l.length := by omega
    have H := ih (x.set i (rd l (i : Int))) (i + 1) (by omega) (by omega) (by rw [List.length_set]; exact hx) (set_prefix hx (rd_get l hil) h)
    refine Ev.step (fun k => rfl) ?_
    simp only [laws_toIntS.l0, show ((i : Int) < (l.length : Int)) by omega, show (0 : Int) ≤ (i : Int) by omega, show ((i : Int) < (x.length : Int)) by omega, if_true, Int.toNat_natCast, next64 (show i < 4611686018427387904 by omega)]
    exact H
theorem toIntS_ev (l : List Int) (hl : l.length ≤ 35184372088832) : Ev (fun k => laws_toIntS.f k l) l := by
  simp only [laws_toIntS.f, show (0 : Int) ≤ (l.length : Int) by omega, if_true, Int.toNat_natCast, hl]
  exact toIntS_loop l (by omega) l.length _ 0 (by omega) (by omega) (by simp) (fun j hj => by omega)
theorem eqIntS_loop (l : List Int) (hl : l.length ≤ 281474976710656) (n : Nat) : ∀ (i : Nat), l.length - i = n → i ≤ l.length → Ev (fun k => laws_eqIntS.l0 k l l (i : Int)) true := by
  induction n with
  | zero =>
    intro i hn hi
    refine Ev.step (fun k => rfl) ?_
    simp only [laws_eqIntS.l0, show ¬ ((i : Int) < (l.length : Int)) by omega, if_false]
    exact Ev.now _
  | succ n ih =>
    intro i hn hi
    have H := ih (i + 1) (by omega) (by omega)
    refine Ev.step (fun k => rfl) ?_
    simp only [laws_eqIntS.l0, show ((i : Int) < (l.length : Int)) by omega, show (0 : Int) ≤ (i : Int) by omega, if_true, next64 (show i < 4611686018427387904 by omega)]
    exact H
theorem eqIntS_ev (l : List Int) (hl : l.length ≤ 281474976710656) : Ev (fun k => laws_eqIntS.f k l l) true := by
  simp only [laws_eqIntS.f, if_true]
  exact eqIntS_loop l hl l.length 0 (by omega) (by omega)
theorem markIntS_loop (m : Int) (N : Nat) (hm : 0 ≤ m) (hN : m + N ≤ 4611686018427387903) (n : Nat) : ∀ (x : List Int) (i : Nat), N - i = n → i ≤ N → x.length = N → (∀ j, j < i → x[j]? = (marksI m N)[j]?) → Ev (fun k => laws_markIntS.l0 k x (m + i) (i : Int)) (m + N, marksI m N) := by
  induction n with
  | zero =>
    intro x i hn hi hx h
    obtain rfl : i = N := by omega
    refine Ev.step (fun k => rfl) ?_
    simp only [laws_markIntS.l0, show ¬ ((i : Int) < (x.length : Int)) by omega, if_false]
    exact Ev_now (by rw [prefix_all (l := marksI m i) (by rw [marksI_length, hx]) (fun j hj => h j (by rw [marksI_length] at hj; exact hj))])
  | succ n ih =>
    intro x i hn hi hx h
    have H := ih (x.set i (m + i)) (i + 1) (by omega) (by omega) (by rw [List.length_set]; exact hx) (set_prefix (by rw [marksI_length, hx]) (marksI_get m (by omega)) h)
    rw [show m + ((i + 1 : Nat) : Int) = m + i + 1 by omega] at H
    refine Ev.step (fun k => rfl) ?_
    simp only [laws_markIntS.l0, show ((i : Int) < (x.length : Int)) by omega, show (0 : Int) ≤ (i : Int) by omega, if_true, Int.toNat_natCast, next64 (show i < 4611686018427387904 by omega), w64 (x := m + i + 1) (by omega) (by omega)]
    exact H
theorem markIntS_ev (x : List Int) (m : Int) (hm : 0 ≤ m) (hN : m + x.length ≤ 4611686018427387903) : Ev (fun k => laws_markIntS.f k x m) (m + x.length, marksI m x.length) := by
  have H := markIntS_loop m x.length hm hN x.length x 0 (by omega) (by omega) rfl (fun j hj => by omega)
  rw [show m + ((0 : Nat) : Int) = m by omega] at H
  simp only [laws_markIntS.f]
  exact H
theorem heldIntS_loop (m : Int) (N : Nat) (hm : 0 ≤ m) (hN : m + N ≤ 4611686018427387903) (n : Nat) : ∀ (i : Nat), N - i = n → i ≤ N → Ev (fun k => laws_heldIntS.l0 k (marksI m N) (m + i) (i : Int)) (m + N) := by
  induction n with
  | zero =>
    intro i hn hi
    obtain rfl : i = N := by omega
    refine Ev.step (fun k => rfl) ?_
    simp only [laws_heldIntS.l0, marksI_length, show ¬ ((i : Int) < (i : Int)) by omega, if_false]
    exact Ev.now _
  | succ n ih =>
    intro i hn hi
    have H := ih (i + 1) (by omega) (by omega)
    rw [show m + ((i + 1 : Nat) : Int) = m + i + 1 by omega] at H
    refine Ev.step (fun k => rfl) ?_
    simp only [laws_heldIntS.l0, marksI_length, show ((i : Int) < (N : Int)) by omega, show (0 : Int) ≤ (i : Int) by omega, rd_some (marksI_get m (show i < N by omega)), if_true, next64 (show i < 4611686018427387904 by omega), w64 (x := m + i + 1) (by omega) (by omega)]
    exact H
theorem heldIntS_ev (n : Nat) (m : Int) (hm : 0 ≤ m) (hN : m + n ≤ 4611686018427387903) : Ev (fun k => laws_heldIntS.f k (marksI m n) m) (m + n) := by
  have H := heldIntS_loop m n hm hN n 0 (by omega) (by omega)
  rw [show m + ((0 : Nat) : Int) = m by omega] at H
  simp only [laws_heldIntS.f]
  exact H
theorem has_loop (l : List S105) (m : Int) (hl : l.length ≤ 1048576) (n : Nat) : ∀ i : Nat, l.length - i = n → i ≤ l.length → ∃ b, Ev (fun k => spec_RangesHas.l0 k l m (i : Int)) b ∧ Ev (fun k => impl_rangesHas.l0 k m l (l.length : Int) (i : Int)) b := by
  induction n with
  | zero =>
    intro i hn hi
    refine ⟨false, ?_, ?_⟩
    · refine Ev.step (fun k => rfl) ?_
      simp only [spec_RangesHas.l0, show ¬ ((i : Int) < (l.length : Int)) by omega, if_false]
      exact Ev.now _
    · refine Ev.step (fun k => rfl) ?_
      simp only [impl_rangesHas.l0, show ¬ ((i : Int) < (l.length : Int)) by omega, if_false]
      exact Ev.now _
  | succ n ih =>
    intro i hn hi
    obtain ⟨b, hs, hi'⟩ := ih (i + 1) (by omega) (by omega)
    by_cases c1 : (rd_T105 l (i : Int)).f0 ≤ m
    · by_cases c2 : m ≤ (rd_T105 l (i : Int)).f1
      · refine ⟨true, ?_, ?_⟩
        · refine Ev.step (fun k => rfl) ?_
          simp only [spec_RangesHas.l0, show ((i : Int) < (l.length : Int)) by omega, show (0 : Int) ≤ (i : Int) by omega, c1, c2, if_true]
          exact Ev.now _
        · refine Ev.step (fun k => rfl) ?_
          simp only [impl_rangesHas.l0, show ((i : Int) < (l.length : Int)) by omega, show (0 : Int) ≤ (i : Int) by omega, c1, c2, if_true]
          exact Ev.now _
      · refine ⟨b, ?_, ?_⟩
        · refine Ev.step (fun k => rfl) ?_
          simp only [spec_RangesHas.l0, show ((i : Int) < (l.length : Int)) by omega, show (0 : Int) ≤ (i : Int) by omega, c1, c2, if_true, if_false, next64 (show i < 4611686018427387904 by omega)]
          exact hs
        · refine Ev.step (fun k => rfl) ?_
          simp only [impl_rangesHas.l0, show ((i : Int) < (l.length : Int)) by omega, show (0 : Int) ≤ (i : Int) by omega, c1, c2, if_true, if_false, next64 (show i < 4611686018427387904 by omega)]
          exact hi'
    · refine ⟨b, ?_, ?_⟩
      · refine Ev.step (fun k => rfl) ?_
        simp only [spec_RangesHas.l0, show ((i : Int) < (l.length : Int)) by omega, show (0 : Int) ≤ (i : Int) by omega, c1, if_true, if_false, next64 (show i < 4611686018427387904 by omega)]
        exact hs
      · refine Ev.step (fun k => rfl) ?_
        simp only [impl_rangesHas.l0, show ((i : Int) < (l.length : Int)) by omega, show (0 : Int) ≤ (i : Int) by omega, c1, if_true, if_false, next64 (show i < 4611686018427387904 by omega)]
        exact hi'
theorem ex_ite {c : Prop} [Decidable c] {A B : Nat → Option Bool} {P : Bool → Prop} (h : c → ∃ r, Ev A r ∧ P r) (h' : ¬ c → ∃ r, Ev B r ∧ P r) : ∃ r, Ev (fun k => if c then A k else B k) r ∧ P r := by
  by_cases hc : c
  · simp only [hc, if_true]; exact h hc
  · simp only [hc, if_false]; exact h' hc
theorem ex_step {g f : Nat → Option Bool} {P : Bool → Prop} (e : ∀ k, g (k + 1) = f k) (h : ∃ r, Ev f r ∧ P r) : ∃ r, Ev g r ∧ P r := by
  obtain ⟨r, h1, h2⟩ := h
  exact ⟨r, Ev.step e h1, h2⟩
theorem ex_bind {α : Type} {g : Nat → Option α} {a : α} {f : Nat → α → Option Bool} {P : Bool → Prop} (hg : Ev g a) (h : ∃ r, Ev (fun k => f k a) r ∧ P r) : ∃ r, Ev (fun k => (g k).bind (f k)) r ∧ P r := by
  obtain ⟨r, h1, h2⟩ := h
  exact ⟨r, Ev.bind hg h1, h2⟩
theorem var_eq (a : Int) : spec_l05Var.f a = some (decide (0 ≤ a ∧ a ≤ 4611686018427387903)) := by
  unfold spec_l05Var.f
  by_cases h : a ≥ 0
  · rw [if_pos h]; exact congrArg some (by rw [decide_eq_decide]; omega)
  · rw [if_neg h]; exact congrArg some (decide_eq_false (by omega)).symm
/-- What makes a frame right: by its kind's table. -/
def okF (a A B C : Int) (f R : Bool) (x y z : Int) (u : Bool × Bool × Bool × Bool × Bool × Bool × Int × Int × Int) : Prop :=
  (0 ≤ A ∧ A ≤ 4611686018427387903) ∧ (0 ≤ B ∧ B ≤ 4611686018427387903) ∧ (0 ≤ C ∧ C ≤ 4611686018427387903) ∧
  (u.2.1 = true ∨ A = 0) ∧ (u.2.2.1 = true ∨ B = 0) ∧ (u.2.2.2.1 = true ∨ C = 0) ∧ (u.2.2.2.2.1 = true ∨ f = false) ∧ u.2.2.2.2.2.2.1 ≤ x ∧ x ≤ u.2.2.2.2.2.2.2.1 ∧ y = u.2.2.2.2.2.2.2.2 ∧
  (u.2.2.2.2.2.1 = true ↔ 0 < z) ∧ R = true ∧
  (a = 0 → 1 ≤ A ∧ A ≤ 1500) ∧ (a = 18 ∨ a = 22 → A ≤ 1152921504606846976 ∧ B ≤ 1) ∧ (a = 6 → A ≤ wrap64 (4611686018427387903 - x)) ∧ (a = 8 → B ≤ wrap64 (4611686018427387903 - x)) ∧ (a = 24 → B ≤ A)
theorem Ev_unique {α : Type} {g : Nat → Option α} {a b : α} (h : Ev g a) (h' : Ev g b) : a = b := by
  obtain ⟨n, hn⟩ := h
  obtain ⟨m, hm⟩ := h'
  have e1 := hn (n + m) (by omega)
  have e2 := hm (n + m) (by omega)
  rw [e1] at e2
  exact Option.some.inj e2
theorem spec_kind_2 (A B C : Int) (f R : Bool) (x y : List Int) (z : List S105) (hu : Ev (fun k => spec_l05Kind.f k 2) (true, true, false, false, false, true, 0, 0, 0)) (hR : Ev (fun k => spec_l05RangesOK.f k z) R) (hE : z.length = 0 → R = true) :
    ∃ r, Ev (fun k => spec_FrameOK.f k 2 A B C f x y z) r ∧ (r = true ↔ okF 2 A B C f R x.length y.length z.length (true, true, false, false, false, true, 0, 0, 0)) := by
  simp only [spec_FrameOK.f]
  refine ex_bind hu ?_
  simp only [if_true, if_false, Bool.false_eq_true, var_eq, Option.bind_some, decide_eq_true_eq]
  cases R <;> cases f <;>
  repeat' first
    | exact ⟨_, Ev.now _, by simp only [okF]; (try simp [-List.length_eq_zero_iff] at *); (try omega)⟩
    | refine ex_ite (fun _ => ?_) (fun _ => ?_)
    | refine ex_bind hR ?_
    | (refine ex_step (fun k => rfl) ?_; simp only [spec_FrameOK.j0, spec_FrameOK.j1, spec_FrameOK.j2, if_true, if_false, Bool.false_eq_true, Bool.not_true, Bool.not_false, decide_eq_true_eq])
theorem impl_kind_2 (A B C : Int) (f R : Bool) (x y : List Int) (z : List S105) (hu : impl_shapeOf.f 2 = some (true, false, false, false, false, true, true)) (hR : Ev (fun k => impl_rangesOK.f k z) R) (hE : z.length = 0 → R = true) :
    ∃ r, Ev (fun k => impl_FrameOK.f k 2 A B C f x y z) r ∧ (r = true ↔ okF 2 A B C f R x.length y.length z.length (true, true, false, false, false, true, 0, 0, 0)) := by
  simp only [impl_FrameOK.f, hu, Option.bind_some, inVar_eq, if_true, if_false, Bool.false_eq_true, decide_eq_true_eq]
  cases R <;> cases f <;>
  repeat' first
    | exact ⟨_, Ev.now _, by simp only [okF]; (try simp [-List.length_eq_zero_iff] at *); (try omega)⟩
    | refine ex_ite (fun _ => ?_) (fun _ => ?_)
    | refine ex_bind hR ?_
    | (refine ex_step (fun k => rfl) ?_; simp only [impl_FrameOK.j0, impl_FrameOK.j1, impl_FrameOK.j2, impl_FrameOK.j3, impl_FrameOK.j4, impl_FrameOK.j5, if_true, if_false, Bool.false_eq_true, Bool.not_true, Bool.not_false, Bool.false_and, Bool.true_and, Bool.and_false, Bool.false_or, Bool.or_false, Bool.true_or, Bool.or_true, Bool.or_eq_true, Bool.and_eq_true, bne_iff_ne, ne_eq, decide_eq_true_eq])
theorem szFrame_ev (a b c d : Int) (f : Bool) (x y : List Int) (z : List S107) (m : Int) (h0 : 0 ≤ m) (h1 : m ≤ 1048576) (hx : x.length ≤ maxLen) (hy : y.length ≤ maxLen) (hz : z.length ≤ maxLen) :
    ∃ t, laws_szFrame.f a b c d f x y z m = some t ∧ (t < 0 ∨ (x.length ≤ 1048576 ∧ y.length ≤ 1048576 ∧ z.length ≤ 1048576)) := by
  have hz' := hz
  unfold maxLen at hx hy hz
  have m1 : (-1 : Int) < 0 := by decide
  rcases szB x m (by omega) (by omega) (by omega) with ⟨e1, h1⟩ | ⟨e1, h1⟩
  · exact ⟨-1, by simp only [laws_szFrame.f, e1, Option.bind_some, m1, if_true], .inl m1⟩
  rcases szB y (m - x.length) (by omega) (by omega) (by omega) with ⟨e2, h2⟩ | ⟨e2, h2⟩
  · exact ⟨-1, by simp only [laws_szFrame.f, e1, e2, Option.bind_some, show ¬ (m - (x.length : Int) < 0) by omega, m1, if_true, if_false], .inl m1⟩
  rcases szRangeS_at z (m - x.length - y.length) hz' (by omega) with ⟨h3, e3⟩ | ⟨h3, e3⟩
  · exact ⟨-1, by simp only [laws_szFrame.f, e1, e2, e3, Option.bind_some, show ¬ (m - (x.length : Int) < 0) by omega, show ¬ (m - (x.length : Int) - (y.length : Int) < 0) by omega, m1, if_true, if_false], .inl m1⟩
  · exact ⟨m - x.length - y.length - z.length, by simp only [laws_szFrame.f, e1, e2, e3, Option.bind_some, show ¬ (m - (x.length : Int) < 0) by omega, show ¬ (m - (x.length : Int) - (y.length : Int) < 0) by omega, show ¬ (m - (x.length : Int) - (y.length : Int) - (z.length : Int) < 0) by omega, if_false], .inr ⟨by omega, by omega, by omega⟩⟩
theorem toFrame_ev (a b c d : Int) (f : Bool) (x y : List Int) (z : List S107) (hx : x.length ≤ 1048576) (hy : y.length ≤ 1048576) (hz : z.length ≤ 1048576) : Ev (fun k => laws_toFrame.f k a b c d f x y z) (a, b, c, d, f, x, y, z.map conv) := by
  simp only [laws_toFrame.f]
  refine Ev.bind (toByteS_ev _ (by omega)) ?_
  refine Ev.bind (toByteS_ev _ (by omega)) ?_
  exact Ev.bind (toRangeS_ev _ hz) (Ev.now _)
theorem eqFrame_ev (a b c d : Int) (f : Bool) (x y : List Int) (z : List S105) (hx : x.length ≤ 281474976710656) (hy : y.length ≤ 281474976710656) (hz : z.length ≤ 281474976710656) : Ev (fun k => laws_eqFrame.f k a b c d f x y z a b c d f x y z) true := by
  simp only [laws_eqFrame.f, if_true, bne_self_eq_false, Bool.false_eq_true, if_false]
  refine Ev.bind (eqByteS_ev x hx) ?_
  simp only [if_true]
  refine Ev.bind (eqByteS_ev y hy) ?_
  simp only [if_true]
  refine Ev.bind (eqRangeS_ev z hz) ?_
  simp only [if_true]
  exact Ev.now _
theorem frame_two (A B C : Int) (f : Bool) (x y : List Int) (z : List S105) (hz : z.length ≤ 1048576) :
    ∃ r, Ev (fun k => spec_FrameOK.f k 2 A B C f x y z) r ∧ Ev (fun k => impl_FrameOK.f k 2 A B C f x y z) r ∧ (r = true → Ev (fun k => spec_l05RangesOK.f k z) true) := by
  obtain ⟨R, hRs, hRi, -⟩ := ok_both z hz
  have hE : z.length = 0 → R = true := by
    intro h0
    have e : z = [] := List.eq_nil_of_length_eq_zero h0
    subst e
    have h1 : Ev (fun k => spec_l05RangesOK.f k ([] : List S105)) true := by
      simp only [spec_l05RangesOK.f]
      exact Ev.step (f := fun _ => some true) (fun k => by simp [spec_l05RangesOK.l0]) (Ev.now _)
    exact Ev_unique hRs h1
  have hu : Ev (fun k => spec_l05Kind.f k 2) (true, true, false, false, false, true, 0, 0, 0) := Ev.of (spec_l05Kind.mono _) (k := 9) (by kernel_rfl)
  have hsh : impl_shapeOf.f 2 = some (true, false, false, false, false, true, true) := by rw [shape_ok 2 (by decide)]; kernel_rfl
  obtain ⟨r, h1, h2⟩ := spec_kind_2 A B C f R x y z hu hRs hE
  obtain ⟨r', h3, h4⟩ := impl_kind_2 A B C f R x y z hsh hRi hE
  have e : r' = r := by
    cases r <;> cases r' <;> simp_all
  refine ⟨r, h1, e ▸ h3, fun h => ?_⟩
  have h5 := h2.mp h
  unfold okF at h5
  obtain ⟨_, _, _, _, _, _, _, _, _, _, _, hR, _⟩ := h5
  subst hR
  exact hRs
theorem markFrame_ev (a b c d : Int) (f : Bool) (x y : List Int) (z : List S105) (m : Int) (h0 : 0 ≤ m) (h1 : m ≤ 16777216) (hx : x.length ≤ 1048576) (hy : y.length ≤ 1048576) (hz : z.length ≤ 1048576) :
    Ev (fun k => laws_markFrame.f k a b c d f x y z m) (m + x.length + y.length + 2 * z.length, marks m x.length, marks (m + x.length) y.length, marksR (m + x.length + y.length) z.length) := by
  simp only [laws_markFrame.f]
  refine Ev.bind (markByteS_ev x m h0 (by omega)) ?_
  refine Ev.bind (markByteS_ev y _ (by omega) (by omega)) ?_
  exact Ev.bind (markRangeS_ev z _ (by omega) (by omega)) (Ev.now _)
section
variable (a A B C : Int) (f : Bool) (x y : List Int) (z : List S105) (l : List Int) (hl : l.length ≤ 4096) (H : Int → Bool) (hs : ∀ m, Ev (fun k => spec_RangesHas.f k z m) (H m)) (hi : ∀ m, Ev (fun k => impl_rangesHas.f k z m) (H m))
theorem drop_rd {i : Nat} (h : i < l.length) : l.drop i = rd l (i : Int) :: l.drop (i + 1) := by
  rw [rd_some (List.getElem?_eq_getElem h)]
  exact List.drop_eq_getElem_cons h
theorem prev64 {i : Nat} (h : 0 < i) (h1 : i < 4611686018427387904) : wrap64 ((i : Int) - 1) = ((i - 1 : Nat) : Int) := by rw [w64 (by omega) (by omega)]; omega
include hl hs in
theorem acked_out (n : Nat) : ∀ (i : Nat) (acc : List Int), l.length - i = n → i ≤ l.length → acc.length ≤ i → Ev (fun k => spec_AckedBy.l1 k l acc (i : Int) a A B C f x y z) (acc ++ (l.drop i).filter H, 0) := by
  induction n with
  | zero =>
    intro i acc hn hi' ha
    refine Ev.step (fun k => rfl) ?_
    simp only [spec_AckedBy.l1, show ¬ ((i : Int) < (l.length : Int)) by omega, if_false]
    exact Ev_now (by rw [List.drop_eq_nil_of_le (by omega)]; simp)
  | succ n ih =>
    intro i acc hn hi' ha
    have hil : i < l.length := by omega
    refine Ev.step (fun k => rfl) ?_
    simp only [spec_AckedBy.l1, show ((i : Int) < (l.length : Int)) by omega, show (0 : Int) ≤ (i : Int) by omega, if_true]
    refine Ev.bind (hs _) ?_
    cases h : H (rd l (i : Int)) with
    | false =>
      simp only [Bool.false_eq_true, if_false, next64 (show i < 4611686018427387904 by omega)]
      refine Ev_cast (ih (i + 1) acc (by omega) (by omega) (by omega)) ?_
      rw [drop_rd l hil, List.filter_cons_of_neg (by simp [h])]
    | true =>
      simp only [if_true, show acc.length < 17592186044416 by omega, next64 (show i < 4611686018427387904 by omega)]
      refine Ev_cast (ih (i + 1) (acc ++ [rd l (i : Int)]) (by omega) (by omega) (by simp; omega)) ?_
      rw [drop_rd l hil, List.filter_cons_of_pos h]
      simp
include hl hs hi in
theorem acked_loop (n : Nat) : ∀ i : Nat, l.length - i = n → i ≤ l.length → ∃ b : Bool, Ev (fun k => spec_AckedBy.l0 k l (i : Int) a A B C f x y z) (if b = true then (l.filter H, 0) else ([], 1)) ∧
    ∀ acc : List Int, acc.length ≤ i → Ev (fun k => impl_AckedBy.l0 k l acc l (l.length : Int) (i : Int) a A B C f x y z) (if b = true then (acc ++ (l.drop i).filter H, 0) else ([], 1)) := by
  induction n with
  | zero =>
    intro i hn hi'
    refine ⟨true, ?_, fun acc ha => ?_⟩
    · refine Ev.step (fun k => rfl) ?_
      simp only [spec_AckedBy.l0, show ¬ ((i : Int) < (l.length : Int)) by omega, if_false, if_true]
      exact Ev_cast (acked_out a A B C f x y z l hl H hs l.length 0 [] (by omega) (by omega) (by simp)) (by simp)
    · refine Ev.step (fun k => rfl) ?_
      simp only [impl_AckedBy.l0, show ¬ ((i : Int) < (l.length : Int)) by omega, if_false, if_true]
      exact Ev_now (by rw [List.drop_eq_nil_of_le (by omega)]; simp)
  | succ n ih =>
    intro i hn hi'
    have hil : i < l.length := by omega
    obtain ⟨b, h1, h2⟩ := ih (i + 1) (by omega) (by omega)
    have cont : ∀ acc : List Int, acc.length ≤ i → Ev (fun k => impl_AckedBy.j2 k l acc (rd l (i : Int)) l (l.length : Int) (i : Int) false a A B C f x y z) (if b = true then (acc ++ (l.drop i).filter H, 0) else ([], 1)) := by
      intro acc ha
      refine Ev.step (fun k => rfl) ?_
      simp only [impl_AckedBy.j2, Bool.false_eq_true, if_false]
      refine Ev.bind (hi _) ?_
      cases h : H (rd l (i : Int)) with
      | false =>
        simp only [Bool.false_eq_true, if_false, next64 (show i < 4611686018427387904 by omega)]
        refine Ev_cast (h2 acc (by omega)) ?_
        rw [drop_rd l hil, List.filter_cons_of_neg (by simp [h])]
      | true =>
        simp only [if_true, show acc.length < 17592186044416 by omega, next64 (show i < 4611686018427387904 by omega)]
        refine Ev_cast (h2 (acc ++ [rd l (i : Int)]) (by simp; omega)) ?_
        rw [drop_rd l hil, List.filter_cons_of_pos h]
        simp
    have bad : ∀ acc : List Int, Ev (fun k => impl_AckedBy.j2 k l acc (rd l (i : Int)) l (l.length : Int) (i : Int) true a A B C f x y z) ([], 1) := by
      intro acc
      refine Ev.step (fun k => rfl) ?_
      simp only [impl_AckedBy.j2, if_true]
      exact Ev.now _
    have c1 : ((i : Int) < (l.length : Int)) := by omega
    have c2 : (0 : Int) ≤ (i : Int) := by omega
    by_cases v : 0 ≤ rd l (i : Int) ∧ rd l (i : Int) ≤ 4611686018427387903
    · have v' := decide_eq_true v
      by_cases p : 0 < i
      · have p1 : (i : Int) > 0 := by omega
        have p2 : (0 : Int) ≤ ((i - 1 : Nat) : Int) := by omega
        have p3 : ((i - 1 : Nat) : Int) < (l.length : Int) := by omega
        by_cases q : rd l (i : Int) ≤ rd l ((i - 1 : Nat) : Int)
        · refine ⟨false, ?_, fun acc ha => ?_⟩
          · refine Ev.step (fun k => rfl) ?_
            simp only [spec_AckedBy.l0, c1, c2, var_eq, Option.bind_some, v', p1, prev64 p (by omega), p2, p3, q, if_true, if_false, Bool.false_eq_true]
            exact Ev.now _
          · refine Ev.step (fun k => rfl) ?_
            simp only [impl_AckedBy.l0, c1, c2, inVar_eq, Option.bind_some, v', p1, prev64 p (by omega), p2, p3, if_true, if_false, Bool.false_eq_true, decide_eq_true (show rd l ((i - 1 : Nat) : Int) ≥ rd l (i : Int) from q)]
            exact bad acc
        · refine ⟨b, ?_, fun acc ha => ?_⟩
          · refine Ev.step (fun k => rfl) ?_
            simp only [spec_AckedBy.l0, c1, c2, var_eq, Option.bind_some, v', p1, prev64 p (by omega), p2, p3, q, if_true, if_false, next64 (show i < 4611686018427387904 by omega)]
            exact h1
          · refine Ev.step (fun k => rfl) ?_
            simp only [impl_AckedBy.l0, c1, c2, inVar_eq, Option.bind_some, v', p1, prev64 p (by omega), p2, p3, if_true, decide_eq_false (show ¬ rd l ((i - 1 : Nat) : Int) ≥ rd l (i : Int) from q)]
            exact cont acc ha
      · have p1 : ¬ (i : Int) > 0 := by omega
        refine ⟨b, ?_, fun acc ha => ?_⟩
        · refine Ev.step (fun k => rfl) ?_
          simp only [spec_AckedBy.l0, c1, c2, var_eq, Option.bind_some, v', p1, if_true, if_false, next64 (show i < 4611686018427387904 by omega)]
          exact h1
        · refine Ev.step (fun k => rfl) ?_
          simp only [impl_AckedBy.l0, c1, c2, inVar_eq, Option.bind_some, v', p1, if_true, if_false]
          exact cont acc ha
    · have v' := decide_eq_false v
      refine ⟨false, ?_, fun acc ha => ?_⟩
      · refine Ev.step (fun k => rfl) ?_
        simp only [spec_AckedBy.l0, c1, c2, var_eq, Option.bind_some, v', if_true, if_false, Bool.false_eq_true]
        exact Ev.now _
      · refine Ev.step (fun k => rfl) ?_
        simp only [impl_AckedBy.l0, c1, c2, inVar_eq, Option.bind_some, v', if_true, if_false, Bool.false_eq_true]
        exact bad acc
end
/-- Both answer, and the same. -/
theorem both (a A B C : Int) (f : Bool) (x y : List Int) (z : List S105) (l : List Int) (hz : z.length ≤ 1048576) :
    ∃ w e, Ev (fun k => spec_AckedBy.f k a A B C f x y z l) (w, e) ∧ Ev (fun k => impl_AckedBy.f k a A B C f x y z l) (w, e) ∧ w.length ≤ 4096 := by
  have no1 : Ev (fun k => spec_AckedBy.j0 k l true a A B C f x y z) ([], 1) := Ev.step (f := fun _ => some ([], 1)) (fun k => by simp only [spec_AckedBy.j0, if_true]) (Ev.now _)
  have no2 : Ev (fun k => impl_AckedBy.j0 k l true a A B C f x y z) ([], 1) := Ev.step (f := fun _ => some ([], 1)) (fun k => by simp only [impl_AckedBy.j0, if_true]) (Ev.now _)
  simp only [spec_AckedBy.f, impl_AckedBy.f]
  by_cases c1 : (l.length : Int) > 4096
  · simp only [c1, if_true]; exact ⟨[], 4, Ev.now _, Ev.now _, by simp⟩
  simp only [c1, if_false]
  by_cases c2 : a = 2
  · subst c2
    simp only [if_true]
    obtain ⟨r, h1, h2, h3⟩ := frame_two A B C f x y z hz
    cases r with
    | false => exact ⟨[], 1, Ev.bind h1 (by simp only [Bool.not_false]; exact no1), Ev.bind h2 (by simp only [Bool.not_false]; exact no2), by simp⟩
    | true =>
      have hR := h3 rfl
      have ex : ∀ m : Int, ∃ b, Ev (fun k => spec_RangesHas.l0 k z m ((0 : Nat) : Int)) b ∧ Ev (fun k => impl_rangesHas.l0 k m z (z.length : Int) ((0 : Nat) : Int)) b := fun m => has_loop z m hz z.length 0 (by omega) (by omega)
      have hs : ∀ m, Ev (fun k => spec_RangesHas.f k z m) (Classical.choose (ex m)) := by
        intro m
        simp only [spec_RangesHas.f]
        refine Ev.bind hR ?_
        simp only [if_true]
        exact (Classical.choose_spec (ex m)).1
      have hi : ∀ m, Ev (fun k => impl_rangesHas.f k z m) (Classical.choose (ex m)) := by
        intro m
        simp only [impl_rangesHas.f]
        exact (Classical.choose_spec (ex m)).2
      obtain ⟨b, s, t⟩ := acked_loop 2 A B C f x y z l (by omega) (fun m => Classical.choose (ex m)) hs hi l.length 0 (by omega) (by omega)
      have t := t [] (by simp)
      have s' : Ev (fun k => spec_AckedBy.j0 k l false 2 A B C f x y z) (if b = true then (l.filter (fun m => Classical.choose (ex m)), 0) else ([], 1)) := by
        refine Ev.step (fun k => rfl) ?_
        simp only [spec_AckedBy.j0, Bool.false_eq_true, if_false]
        exact s
      have t' : Ev (fun k => impl_AckedBy.j0 k l false 2 A B C f x y z) (if b = true then (l.filter (fun m => Classical.choose (ex m)), 0) else ([], 1)) := by
        refine Ev.step (fun k => rfl) ?_
        simp only [impl_AckedBy.j0, Bool.false_eq_true, if_false]
        refine Ev_cast t ?_
        simp
      cases b with
      | false => exact ⟨[], 1, Ev.bind h1 (by simp only [Bool.not_true]; simpa using s'), Ev.bind h2 (by simp only [Bool.not_true]; simpa using t'), by simp⟩
      | true => exact ⟨_, 0, Ev.bind h1 (by simp only [Bool.not_true]; simpa using s'), Ev.bind h2 (by simp only [Bool.not_true]; simpa using t'), Nat.le_trans (List.length_filter_le _ _) (by omega)⟩
  · simp only [c2, if_false]
    exact ⟨[], 1, no1, no2, by simp⟩

theorem FnExactAckedBy (a A B C : Int) (f : Bool) (x y : List Int) (z : List S107) (l : List Int) (qa : (Lit.int .i64 a).wf = true) (qA : (Lit.int .i64 A).wf = true) (qB : (Lit.int .i64 B).wf = true) (qC : (Lit.int .i64 C).wf = true) (qx : x.length ≤ maxLen ∧ ∀ b ∈ x, (Lit.int .u8 b).wf = true) (qy : y.length ≤ maxLen ∧ ∀ b ∈ y, (Lit.int .u8 b).wf = true) (qz : z.length ≤ maxLen ∧ ∀ r ∈ z, (Lit.int .i64 r.f0).wf = true ∧ (Lit.int .i64 r.f1).wf = true) (ql : l.length ≤ maxLen ∧ ∀ b ∈ l, (Lit.int .i64 b).wf = true) : ∃ k, laws_FnExactAckedBy.f k a A B C f x y z l = some true := by
  refine Ev.rounds (g := fun k => laws_FnExactAckedBy.f k a A B C f x y z l) ?_
  simp only [laws_FnExactAckedBy.f]
  by_cases cl : (l.length : Int) > 1048576
  · simp only [cl, if_true]; exact Ev.now _
  simp only [cl, if_false]
  obtain ⟨t, ht, ht'⟩ := szFrame_ev a A B C f x y z 1048576 (by decide) (by decide) qx.1 qy.1 qz.1
  simp only [ht, Option.bind_some]
  refine Ev_ite (fun _ => Ev.now _) (fun c => ?_)
  obtain ⟨zx, zy, zz⟩ := ht'.resolve_left c
  have zz' : (z.map conv).length ≤ 1048576 := by rw [List.length_map]; exact zz
  obtain ⟨w, e, hs, hi, hw⟩ := both a A B C f x y (z.map conv) l zz'
  repeat' first
    | exact Ev.now _
    | refine Ev.bind hs ?_
    | refine Ev.bind hi ?_
    | refine Ev.bind (toFrame_ev a A B C f x y z zx zy zz) ?_
    | refine Ev.bind (eqFrame_ev a A B C f x y (z.map conv) (by omega) (by omega) (by omega)) ?_
    | refine Ev.bind (markFrame_ev a A B C f x y (z.map conv) _ (by omega) (by omega) zx zy zz') ?_
    | refine Ev.bind (toIntS_ev _ (by omega)) ?_
    | refine Ev.bind (eqIntS_ev _ (by omega)) ?_
    | refine Ev.bind (markIntS_ev _ _ (by omega) (by omega)) ?_
    | refine Ev.bind (heldIntS_ev _ _ (by omega) (by omega)) ?_
    | simp only [if_true, if_false, bne_self_eq_false, Bool.false_eq_true, Bool.not_true, marksI_length]
    | (refine Ev.step (fun k => rfl) ?_; simp only [laws_FnExactAckedBy.j0, laws_FnExactAckedBy.j1, laws_FnExactAckedBy.j2])
    | refine Ev_ite (fun c => absurd c (by omega)) (fun _ => ?_)

end Go.Proofs.Ytdojcdhlcnlohaa.Pure
