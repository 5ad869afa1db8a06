/- For all frames: the program's FrameOK and the reference's tell the same. -/
import Derived.Test.YtdojcdhlcnlohaaSFnExactFrameOKx9
import Derived.Test.YtdojcdhlcnlohaaFMath
namespace Go.Proofs.Ytdojcdhlcnlohaa.Pure
open Go.RowKit Go.Proofs.Ytdojcdhlcnlohaa.SFnExactFrameOK Go.Proofs.YtdojcdhlcnlohaaW.PrintWords Go.Proofs.YtdojcdhlcnlohaaW.PrintLast Go.Proofs.YtdojcdhlcnlohaaW.PrintMore Go.Proofs.Ytdojcdhlcnlohaa.Math
set_option linter.unusedVariables false
set_option linter.unusedSimpArgs false

theorem toByteS_loop (l : List Int) (hl : l.length ≤ 281474976710656) (n : Nat) : ∀ (x : List Int) (i : Nat), l.length - i = n → i ≤ l.length → x.length = l.length → (∀ j, j < i → x[j]? = l[j]?) → Ev (fun k => laws_toByteS.l0 k l x (i : Int)) l := by
  induction n with
  | zero =>
    intro x i hn hi hx h
    refine Ev.step (fun k => rfl) ?_
    simp only [laws_toByteS.l0, show ¬ ((i : Int) < (l.length : Int)) by omega, if_false]
    exact Ev_now (prefix_all hx (fun j hj => h j (by omega)))
  | succ n ih =>
    intro x i hn hi hx h
    have hil : i < l.length := by omega
    have H := ih (x.set i (rd l (i : Int))) (i + 1) (by omega) (by omega) (by rw [List.length_set]; exact hx) (set_prefix hx (rd_get l hil) h)
    refine Ev.step (fun k => rfl) ?_
    simp only [laws_toByteS.l0, show ((i : Int) < (l.length : Int)) by omega, show (0 : Int) ≤ (i : Int) by omega, show ((i : Int) < (x.length : Int)) by omega, if_true, Int.toNat_natCast, next64 (show i < 4611686018427387904 by omega)]
    exact H
theorem toByteS_ev (l : List Int) (hl : l.length ≤ 281474976710656) : Ev (fun k => laws_toByteS.f k l) l := by
  simp only [laws_toByteS.f, show (0 : Int) ≤ (l.length : Int) by omega, if_true, Int.toNat_natCast, hl]
  exact toByteS_loop l hl l.length _ 0 (by omega) (by omega) (by simp) (fun j hj => by omega)
theorem eqByteS_loop (l : List Int) (hl : l.length ≤ 281474976710656) (n : Nat) : ∀ (i : Nat), l.length - i = n → i ≤ l.length → Ev (fun k => laws_eqByteS.l0 k l l (i : Int)) true := by
  induction n with
  | zero =>
    intro i hn hi
    refine Ev.step (fun k => rfl) ?_
    simp only [laws_eqByteS.l0, show ¬ ((i : Int) < (l.length : Int)) by omega, if_false]
    exact Ev.now _
  | succ n ih =>
    intro i hn hi
    have H := ih (i + 1) (by omega) (by omega)
    refine Ev.step (fun k => rfl) ?_
    simp only [laws_eqByteS.l0, show ((i : Int) < (l.length : Int)) by omega, show (0 : Int) ≤ (i : Int) by omega, if_true, next64 (show i < 4611686018427387904 by omega)]
    exact H
theorem eqByteS_ev (l : List Int) (hl : l.length ≤ 281474976710656) : Ev (fun k => laws_eqByteS.f k l l) true := by
  simp only [laws_eqByteS.f, if_true]
  exact eqByteS_loop l hl l.length 0 (by omega) (by omega)
theorem rdR_some {l : List S105} {i : Nat} {v : S105} (h : l[i]? = some v) : rd_T105 l (i : Int) = v := by
  unfold rd_T105; rw [Int.toNat_natCast, List.getD_eq_getElem?_getD, h]; rfl
theorem rdR_get (l : List S105) {i : Nat} (h : i < l.length) : l[i]? = some (rd_T105 l (i : Int)) := by
  have e := List.getElem?_eq_getElem h
  rw [rdR_some e]; exact e
theorem rdW_some {l : List S107} {i : Nat} {v : S107} (h : l[i]? = some v) : rd_T107 l (i : Int) = v := by
  unfold rd_T107; rw [Int.toNat_natCast, List.getD_eq_getElem?_getD, h]; rfl
theorem rdW_get (l : List S107) {i : Nat} (h : i < l.length) : l[i]? = some (rd_T107 l (i : Int)) := by
  have e := List.getElem?_eq_getElem h
  rw [rdW_some e]; exact e
/-- A range of the laws' package, in the program's. -/
def conv (x : S107) : S105 := ⟨x.f0, x.f1⟩
theorem szRangeS_at (l : List S107) (m : Int) (hl : l.length ≤ maxLen) (hm : 0 ≤ m ∧ m ≤ 1048576) : (m < l.length ∧ laws_szRangeS.f l m = some (-1)) ∨ (l.length ≤ m ∧ laws_szRangeS.f l m = some (m - l.length)) := by
  unfold maxLen at hl
  unfold laws_szRangeS.f
  rw [w64 (by omega) (by omega)]
  by_cases h : m - (l.length : Int) < 0
  · rw [if_pos h]; exact .inl ⟨by omega, rfl⟩
  · rw [if_neg h]; exact .inr ⟨by omega, rfl⟩
theorem toRangeS_loop (l : List S107) (hl : l.length ≤ 1048576) (n : Nat) : ∀ (x : List S105) (i : Nat), l.length - i = n → i ≤ l.length → x.length = l.length → (∀ j, j < i → x[j]? = (l.map conv)[j]?) → Ev (fun k => laws_toRangeS.l0 k l x (i : Int)) (l.map conv) := by
  induction n with
  | zero =>
    intro x i hn hi hx h
    refine Ev.step (fun k => rfl) ?_
    simp only [laws_toRangeS.l0, show ¬ ((i : Int) < (l.length : Int)) by omega, if_false]
    exact Ev_now (prefix_all (by rw [List.length_map]; exact hx) (fun j hj => h j (by rw [List.length_map] at hj; omega)))
  | succ n ih =>
    intro x i hn hi hx h
    have hil : i < l.length := by omega
    have H := ih (x.set i (conv (rd_T107 l (i : Int)))) (i + 1) (by omega) (by omega) (by rw [List.length_set]; exact hx) (set_prefix (by rw [List.length_map]; exact hx) (by rw [List.getElem?_map, rdW_get l hil]; rfl) h)
    refine Ev.step (fun k => rfl) ?_
    simp only [laws_toRangeS.l0, laws_toRange.f, Option.bind_some, show ((i : Int) < (l.length : Int)) by omega, show (0 : Int) ≤ (i : Int) by omega, show ((i : Int) < (x.length : Int)) by omega, if_true, Int.toNat_natCast, next64 (show i < 4611686018427387904 by omega)]
    exact H
theorem toRangeS_ev (l : List S107) (hl : l.length ≤ 1048576) : Ev (fun k => laws_toRangeS.f k l) (l.map conv) := by
  simp only [laws_toRangeS.f, show (0 : Int) ≤ (l.length : Int) by omega, if_true, Int.toNat_natCast, show l.length ≤ 17592186044416 by omega]
  exact toRangeS_loop l hl l.length _ 0 (by omega) (by omega) (by simp) (fun j hj => by omega)
theorem eqRangeS_loop (l : List S105) (hl : l.length ≤ 281474976710656) (n : Nat) : ∀ (i : Nat), l.length - i = n → i ≤ l.length → Ev (fun k => laws_eqRangeS.l0 k l l (i : Int)) true := by
  induction n with
  | zero =>
    intro i hn hi
    refine Ev.step (fun k => rfl) ?_
    simp only [laws_eqRangeS.l0, show ¬ ((i : Int) < (l.length : Int)) by omega, if_false]
    exact Ev.now _
  | succ n ih =>
    intro i hn hi
    have H := ih (i + 1) (by omega) (by omega)
    refine Ev.step (fun k => rfl) ?_
    simp only [laws_eqRangeS.l0, laws_eqRange.f, Option.bind_some, show ((i : Int) < (l.length : Int)) by omega, show (0 : Int) ≤ (i : Int) by omega, if_true, next64 (show i < 4611686018427387904 by omega)]
    exact H
theorem eqRangeS_ev (l : List S105) (hl : l.length ≤ 281474976710656) : Ev (fun k => laws_eqRangeS.f k l l) true := by
  simp only [laws_eqRangeS.f, if_true]
  exact eqRangeS_loop l hl l.length 0 (by omega) (by omega)
/-- Range number j of a list is right, and lies behind the one ahead of it. -/
def Good (l : List S105) (j : Nat) : Prop :=
  0 ≤ (rd_T105 l (j : Int)).f0 ∧ (rd_T105 l (j : Int)).f0 ≤ (rd_T105 l (j : Int)).f1 ∧ (rd_T105 l (j : Int)).f1 ≤ 4611686018427387903 ∧ (0 < j → wrap64 ((rd_T105 l ((j : Int) - 1)).f1 + 1) < (rd_T105 l (j : Int)).f0)
theorem inVar_eq (a : Int) : impl_inVar.f a = some (decide (0 ≤ a ∧ a ≤ 4611686018427387903)) := by
  unfold impl_inVar.f
  by_cases h : a ≥ 0
  · rw [if_pos h]; exact congrArg some (by rw [decide_eq_decide]; omega)
  · rw [if_neg h]; exact congrArg some (decide_eq_false (by omega)).symm
theorem ok_loop (l : List S105) (hl : l.length ≤ 1048576) (n : Nat) : ∀ i : Nat, l.length - i = n → i ≤ l.length →
    ∃ b, Ev (fun k => spec_l05RangesOK.l0 k l (i : Int)) b ∧ Ev (fun k => impl_rangesOK.l0 k l l (l.length : Int) (i : Int)) b ∧ (b = true → ∀ j, i ≤ j → j < l.length → Good l j) := by
  induction n with
  | zero =>
    intro i hn hi
    refine ⟨true, ?_, ?_, fun _ j h1 h2 => by omega⟩
    · refine Ev.step (fun k => rfl) ?_
      simp only [spec_l05RangesOK.l0, show ¬ ((i : Int) < (l.length : Int)) by omega, if_false]
      exact Ev.now _
    · refine Ev.step (fun k => rfl) ?_
      simp only [impl_rangesOK.l0, show ¬ ((i : Int) < (l.length : Int)) by omega, if_false]
      exact Ev.now _
  | succ n ih =>
    intro i hn hi
    have bad : ∀ (h : ¬ Good l i), Ev (fun k => spec_l05RangesOK.l0 k l (i : Int)) false ∧ Ev (fun k => impl_rangesOK.l0 k l l (l.length : Int) (i : Int)) false → ∃ b, Ev (fun k => spec_l05RangesOK.l0 k l (i : Int)) b ∧ Ev (fun k => impl_rangesOK.l0 k l l (l.length : Int) (i : Int)) b ∧ (b = true → ∀ j, i ≤ j → j < l.length → Good l j) :=
      fun _ h => ⟨false, h.1, h.2, fun h => by cases h⟩
    obtain ⟨b, hs, hi', hb⟩ := ih (i + 1) (by omega) (by omega)
    by_cases c1 : 0 ≤ (rd_T105 l (i : Int)).f0 ∧ (rd_T105 l (i : Int)).f0 ≤ (rd_T105 l (i : Int)).f1 ∧ (rd_T105 l (i : Int)).f1 ≤ 4611686018427387903
    · by_cases c2 : 0 < i
      · by_cases c3 : (rd_T105 l (i : Int)).f0 ≤ wrap64 ((rd_T105 l ((i : Int) - 1)).f1 + 1)
        · refine bad (fun h => by have := h.2.2.2 c2; omega) ⟨?_, ?_⟩
          · refine Ev.step (fun k => rfl) ?_
            simp only [spec_l05RangesOK.l0, show ((i : Int) < (l.length : Int)) by omega, show (0 : Int) ≤ (i : Int) by omega, show ¬ ((rd_T105 l (i : Int)).f0 < 0) by omega, show ¬ ((rd_T105 l (i : Int)).f1 > 4611686018427387903) by omega, show ¬ ((rd_T105 l (i : Int)).f0 > (rd_T105 l (i : Int)).f1) by omega, show (i : Int) > 0 by omega, w64 (x := (i : Int) - 1) (by omega) (by omega), show (0 : Int) ≤ (i : Int) - 1 by omega, show (i : Int) - 1 < (l.length : Int) by omega, if_true, if_false, c3]
            exact Ev.now _
          · refine Ev.step (fun k => rfl) ?_
            simp only [impl_rangesOK.l0, inVar_eq, Option.bind_some, show ((i : Int) < (l.length : Int)) by omega, show (0 : Int) ≤ (i : Int) by omega, show (0 ≤ (rd_T105 l (i : Int)).f0 ∧ (rd_T105 l (i : Int)).f0 ≤ 4611686018427387903) by omega, show (0 ≤ (rd_T105 l (i : Int)).f1 ∧ (rd_T105 l (i : Int)).f1 ≤ 4611686018427387903) by omega, show ¬ ((rd_T105 l (i : Int)).f0 > (rd_T105 l (i : Int)).f1) by omega, and_self, decide_true, show (i : Int) > 0 by omega, w64 (x := (i : Int) - 1) (by omega) (by omega), show (0 : Int) ≤ (i : Int) - 1 by omega, show (i : Int) - 1 < (l.length : Int) by omega, if_true, if_false, c3]
            exact Ev.now _
        · refine ⟨b, ?_, ?_, fun h j h1 h2 => ?_⟩
          · refine Ev.step (fun k => rfl) ?_
            simp only [spec_l05RangesOK.l0, show ((i : Int) < (l.length : Int)) by omega, show (0 : Int) ≤ (i : Int) by omega, show ¬ ((rd_T105 l (i : Int)).f0 < 0) by omega, show ¬ ((rd_T105 l (i : Int)).f1 > 4611686018427387903) by omega, show ¬ ((rd_T105 l (i : Int)).f0 > (rd_T105 l (i : Int)).f1) by omega, show (i : Int) > 0 by omega, w64 (x := (i : Int) - 1) (by omega) (by omega), show (0 : Int) ≤ (i : Int) - 1 by omega, show (i : Int) - 1 < (l.length : Int) by omega, if_true, if_false, c3, next64 (show i < 4611686018427387904 by omega)]
            exact hs
          · refine Ev.step (fun k => rfl) ?_
            simp only [impl_rangesOK.l0, inVar_eq, Option.bind_some, show ((i : Int) < (l.length : Int)) by omega, show (0 : Int) ≤ (i : Int) by omega, show (0 ≤ (rd_T105 l (i : Int)).f0 ∧ (rd_T105 l (i : Int)).f0 ≤ 4611686018427387903) by omega, show (0 ≤ (rd_T105 l (i : Int)).f1 ∧ (rd_T105 l (i : Int)).f1 ≤ 4611686018427387903) by omega, show ¬ ((rd_T105 l (i : Int)).f0 > (rd_T105 l (i : Int)).f1) by omega, and_self, decide_true, show (i : Int) > 0 by omega, w64 (x := (i : Int) - 1) (by omega) (by omega), show (0 : Int) ≤ (i : Int) - 1 by omega, show (i : Int) - 1 < (l.length : Int) by omega, if_true, if_false, c3, next64 (show i < 4611686018427387904 by omega)]
            exact hi'
          · by_cases e : j = i
            · subst e; exact ⟨c1.1, c1.2.1, c1.2.2, fun _ => by omega⟩
            · exact hb h j (by omega) h2
      · refine ⟨b, ?_, ?_, fun h j h1 h2 => ?_⟩
        · refine Ev.step (fun k => rfl) ?_
          simp only [spec_l05RangesOK.l0, show ((i : Int) < (l.length : Int)) by omega, show (0 : Int) ≤ (i : Int) by omega, show ¬ ((rd_T105 l (i : Int)).f0 < 0) by omega, show ¬ ((rd_T105 l (i : Int)).f1 > 4611686018427387903) by omega, show ¬ ((rd_T105 l (i : Int)).f0 > (rd_T105 l (i : Int)).f1) by omega, show ¬ ((i : Int) > 0) by omega, if_true, if_false, next64 (show i < 4611686018427387904 by omega)]
          exact hs
        · refine Ev.step (fun k => rfl) ?_
          simp only [impl_rangesOK.l0, inVar_eq, Option.bind_some, show ((i : Int) < (l.length : Int)) by omega, show (0 : Int) ≤ (i : Int) by omega, show (0 ≤ (rd_T105 l (i : Int)).f0 ∧ (rd_T105 l (i : Int)).f0 ≤ 4611686018427387903) by omega, show (0 ≤ (rd_T105 l (i : Int)).f1 ∧ (rd_T105 l (i : Int)).f1 ≤ 4611686018427387903) by omega, show ¬ ((rd_T105 l (i : Int)).f0 > (rd_T105 l (i : Int)).f1) by omega, and_self, decide_true, show ¬ ((i : Int) > 0) by omega, if_true, if_false, next64 (show i < 4611686018427387904 by omega)]
          exact hi'
        · by_cases e : j = i
          · subst e; exact ⟨c1.1, c1.2.1, c1.2.2, fun h => by omega⟩
          · exact hb h j (by omega) h2
    · refine bad (fun h => c1 ⟨h.1, h.2.1, h.2.2.1⟩) ⟨?_, ?_⟩
      · refine Ev.step (fun k => rfl) ?_
        simp only [spec_l05RangesOK.l0, show ((i : Int) < (l.length : Int)) by omega, show (0 : Int) ≤ (i : Int) by omega, if_true]
        refine Ev_ite (fun _ => Ev.now _) (fun d1 => ?_)
        refine Ev_ite (fun _ => Ev.now _) (fun d2 => ?_)
        refine Ev_ite (fun _ => Ev.now _) (fun d3 => ?_)
        omega
      · refine Ev.step (fun k => rfl) ?_
        simp only [impl_rangesOK.l0, inVar_eq, Option.bind_some, show ((i : Int) < (l.length : Int)) by omega, show (0 : Int) ≤ (i : Int) by omega, if_true, decide_eq_true_eq]
        refine Ev_ite (fun _ => Ev.now _) (fun d1 => ?_)
        refine Ev_ite (fun d2 => ?_) (fun _ => Ev.now _)
        refine Ev_ite (fun d3 => ?_) (fun _ => Ev.now _)
        omega
/-- Both tell the same of a list; where they say yes, it is short and each range is right. -/
theorem ok_both (l : List S105) (hl : l.length ≤ 1048576) : ∃ b, Ev (fun k => spec_l05RangesOK.f k l) b ∧ Ev (fun k => impl_rangesOK.f k l) b ∧ (b = true → l.length ≤ 64 ∧ ∀ j, j < l.length → Good l j) := by
  simp only [spec_l05RangesOK.f, impl_rangesOK.f]
  by_cases h : (l.length : Int) > 64
  · simp only [h, if_true]; exact ⟨_, Ev.now _, Ev.now _, fun h => by cases h⟩
  · simp only [h, if_false]
    obtain ⟨b, hs, hi, hb⟩ := ok_loop l hl l.length 0 (by omega) (by omega)
    exact ⟨b, hs, hi, fun h => ⟨by omega, fun j hj => hb h j (by omega) hj⟩⟩
/-- The kinds. -/
def Known (a : Int) : Prop := a = 0 ∨ a = 1 ∨ a = 2 ∨ a = 4 ∨ a = 5 ∨ a = 6 ∨ a = 7 ∨ a = 8 ∨ a = 16 ∨ a = 17 ∨ a = 18 ∨ a = 20 ∨ a = 21 ∨ a = 22 ∨ a = 24 ∨ a = 25 ∨ a = 26 ∨ a = 27 ∨ a = 28 ∨ a = 29 ∨ a = 30 ∨ a = 48
/-- What the reference says of a kind. -/
def kdTab : List (Int × (Bool × Bool × Bool × Bool × Bool × Bool × Int × Int × Int)) :=
  [(0, true, true, false, false, false, false, 0, 0, 0),
   (1, true, false, false, false, false, false, 0, 0, 0),
   (2, true, true, false, false, false, true, 0, 0, 0),
   (4, true, true, true, true, false, false, 0, 0, 0),
   (5, true, true, true, false, false, false, 0, 0, 0),
   (6, true, true, false, false, false, false, 0, 1500, 0),
   (7, true, false, false, false, false, false, 1, 64, 0),
   (8, true, true, true, false, true, false, 0, 1500, 0),
   (16, true, true, false, false, false, false, 0, 0, 0),
   (17, true, true, true, false, false, false, 0, 0, 0),
   (18, true, true, true, false, false, false, 0, 0, 0),
   (20, true, true, false, false, false, false, 0, 0, 0),
   (21, true, true, true, false, false, false, 0, 0, 0),
   (22, true, true, true, false, false, false, 0, 0, 0),
   (24, true, true, true, false, false, false, 1, 8, 8),
   (25, true, true, false, false, false, false, 0, 0, 0),
   (26, true, false, false, false, false, false, 8, 8, 0),
   (27, true, false, false, false, false, false, 8, 8, 0),
   (28, true, true, true, false, false, false, 0, 200, 0),
   (29, true, true, false, false, false, false, 0, 200, 0),
   (30, true, false, false, false, false, false, 0, 0, 0),
   (48, true, false, false, false, false, false, 0, 1500, 0)]
theorem kind_known (a : Int) (h : Known a) : ∃ u, (a, u) ∈ kdTab ∧ Ev (fun k => spec_l05Kind.f k a) u ∧ u.1 = true ∧ shK a = true := by
  unfold Known at h
  rcases h with rfl | rfl | rfl | rfl | rfl | rfl | rfl | rfl | rfl | rfl | rfl | rfl | rfl | rfl | rfl | rfl | rfl | rfl | rfl | rfl | rfl | rfl
  · exact ⟨(true, true, false, false, false, false, 0, 0, 0), by simp [kdTab], Ev.of (spec_l05Kind.mono _) (k := 9) (by kernel_rfl), rfl, by decide +kernel⟩
  · exact ⟨(true, false, false, false, false, false, 0, 0, 0), by simp [kdTab], Ev.of (spec_l05Kind.mono _) (k := 9) (by kernel_rfl), rfl, by decide +kernel⟩
  · exact ⟨(true, true, false, false, false, true, 0, 0, 0), by simp [kdTab], Ev.of (spec_l05Kind.mono _) (k := 9) (by kernel_rfl), rfl, by decide +kernel⟩
  · exact ⟨(true, true, true, true, false, false, 0, 0, 0), by simp [kdTab], Ev.of (spec_l05Kind.mono _) (k := 9) (by kernel_rfl), rfl, by decide +kernel⟩
  · exact ⟨(true, true, true, false, false, false, 0, 0, 0), by simp [kdTab], Ev.of (spec_l05Kind.mono _) (k := 9) (by kernel_rfl), rfl, by decide +kernel⟩
  · exact ⟨(true, true, false, false, false, false, 0, 1500, 0), by simp [kdTab], Ev.of (spec_l05Kind.mono _) (k := 9) (by kernel_rfl), rfl, by decide +kernel⟩
  · exact ⟨(true, false, false, false, false, false, 1, 64, 0), by simp [kdTab], Ev.of (spec_l05Kind.mono _) (k := 9) (by kernel_rfl), rfl, by decide +kernel⟩
  · exact ⟨(true, true, true, false, true, false, 0, 1500, 0), by simp [kdTab], Ev.of (spec_l05Kind.mono _) (k := 9) (by kernel_rfl), rfl, by decide +kernel⟩
  · exact ⟨(true, true, false, false, false, false, 0, 0, 0), by simp [kdTab], Ev.of (spec_l05Kind.mono _) (k := 9) (by kernel_rfl), rfl, by decide +kernel⟩
  · exact ⟨(true, true, true, false, false, false, 0, 0, 0), by simp [kdTab], Ev.of (spec_l05Kind.mono _) (k := 9) (by kernel_rfl), rfl, by decide +kernel⟩
  · exact ⟨(true, true, true, false, false, false, 0, 0, 0), by simp [kdTab], Ev.of (spec_l05Kind.mono _) (k := 9) (by kernel_rfl), rfl, by decide +kernel⟩
  · exact ⟨(true, true, false, false, false, false, 0, 0, 0), by simp [kdTab], Ev.of (spec_l05Kind.mono _) (k := 9) (by kernel_rfl), rfl, by decide +kernel⟩
  · exact ⟨(true, true, true, false, false, false, 0, 0, 0), by simp [kdTab], Ev.of (spec_l05Kind.mono _) (k := 9) (by kernel_rfl), rfl, by decide +kernel⟩
  · exact ⟨(true, true, true, false, false, false, 0, 0, 0), by simp [kdTab], Ev.of (spec_l05Kind.mono _) (k := 9) (by kernel_rfl), rfl, by decide +kernel⟩
  · exact ⟨(true, true, true, false, false, false, 1, 8, 8), by simp [kdTab], Ev.of (spec_l05Kind.mono _) (k := 9) (by kernel_rfl), rfl, by decide +kernel⟩
  · exact ⟨(true, true, false, false, false, false, 0, 0, 0), by simp [kdTab], Ev.of (spec_l05Kind.mono _) (k := 9) (by kernel_rfl), rfl, by decide +kernel⟩
  · exact ⟨(true, false, false, false, false, false, 8, 8, 0), by simp [kdTab], Ev.of (spec_l05Kind.mono _) (k := 9) (by kernel_rfl), rfl, by decide +kernel⟩
  · exact ⟨(true, false, false, false, false, false, 8, 8, 0), by simp [kdTab], Ev.of (spec_l05Kind.mono _) (k := 9) (by kernel_rfl), rfl, by decide +kernel⟩
  · exact ⟨(true, true, true, false, false, false, 0, 200, 0), by simp [kdTab], Ev.of (spec_l05Kind.mono _) (k := 9) (by kernel_rfl), rfl, by decide +kernel⟩
  · exact ⟨(true, true, false, false, false, false, 0, 200, 0), by simp [kdTab], Ev.of (spec_l05Kind.mono _) (k := 9) (by kernel_rfl), rfl, by decide +kernel⟩
  · exact ⟨(true, false, false, false, false, false, 0, 0, 0), by simp [kdTab], Ev.of (spec_l05Kind.mono _) (k := 9) (by kernel_rfl), rfl, by decide +kernel⟩
  · exact ⟨(true, false, false, false, false, false, 0, 1500, 0), by simp [kdTab], Ev.of (spec_l05Kind.mono _) (k := 9) (by kernel_rfl), rfl, by decide +kernel⟩
theorem kind_unknown (a : Int) (h : ¬ Known a) : (∃ u, Ev (fun k => spec_l05Kind.f k a) u ∧ u.1 = false) ∧ shK a = false := by
  unfold Known at h
  simp only [not_or] at h
  obtain ⟨h0, h1, h2, h4, h5, h6, h7, h8, h16, h17, h18, h20, h21, h22, h24, h25, h26, h27, h28, h29, h30, h48⟩ := h
  have e0 : (a == 0) = false := beq_eq_false_iff_ne.mpr h0
  have e1 : (a == 1) = false := beq_eq_false_iff_ne.mpr h1
  have e2 : (a == 2) = false := beq_eq_false_iff_ne.mpr h2
  have e4 : (a == 4) = false := beq_eq_false_iff_ne.mpr h4
  have e5 : (a == 5) = false := beq_eq_false_iff_ne.mpr h5
  have e6 : (a == 6) = false := beq_eq_false_iff_ne.mpr h6
  have e7 : (a == 7) = false := beq_eq_false_iff_ne.mpr h7
  have e8 : (a == 8) = false := beq_eq_false_iff_ne.mpr h8
  have e16 : (a == 16) = false := beq_eq_false_iff_ne.mpr h16
  have e17 : (a == 17) = false := beq_eq_false_iff_ne.mpr h17
  have e18 : (a == 18) = false := beq_eq_false_iff_ne.mpr h18
  have e20 : (a == 20) = false := beq_eq_false_iff_ne.mpr h20
  have e21 : (a == 21) = false := beq_eq_false_iff_ne.mpr h21
  have e22 : (a == 22) = false := beq_eq_false_iff_ne.mpr h22
  have e24 : (a == 24) = false := beq_eq_false_iff_ne.mpr h24
  have e25 : (a == 25) = false := beq_eq_false_iff_ne.mpr h25
  have e26 : (a == 26) = false := beq_eq_false_iff_ne.mpr h26
  have e27 : (a == 27) = false := beq_eq_false_iff_ne.mpr h27
  have e28 : (a == 28) = false := beq_eq_false_iff_ne.mpr h28
  have e29 : (a == 29) = false := beq_eq_false_iff_ne.mpr h29
  have e30 : (a == 30) = false := beq_eq_false_iff_ne.mpr h30
  have e48 : (a == 48) = false := beq_eq_false_iff_ne.mpr h48
  refine ⟨⟨(false, false, false, false, false, false, 0, 0, 0), ?_, rfl⟩, ?_⟩
  · simp only [spec_l05Kind.f, h1, if_false, e30]
    refine Ev.step (fun k => rfl) ?_
    simp only [spec_l05Kind.j0, Bool.false_eq_true, if_false, h0, h16, h20, e25]
    refine Ev.step (fun k => rfl) ?_
    simp only [spec_l05Kind.j1, Bool.false_eq_true, if_false, h2, h4, h5, h17, h21, h18, e22]
    refine Ev.step (fun k => rfl) ?_
    simp only [spec_l05Kind.j2, Bool.false_eq_true, if_false, h6, h7, h8, h24, h26, e27]
    refine Ev.step (fun k => rfl) ?_
    simp only [spec_l05Kind.j3, Bool.false_eq_true, if_false, h28, h29, h48]
    exact Ev.now _
  · have g : ∀ c : Int, a ≠ c → decide (c = a) = false := fun c hc => decide_eq_false (fun e => hc e.symm)
    simp only [shK, shTab, List.any_cons, List.any_nil, g _ h0, g _ h1, g _ h2, g _ h4, g _ h5, g _ h6, g _ h7, g _ h8, g _ h16, g _ h17, g _ h18, g _ h20, g _ h21, g _ h22, g _ h24, g _ h25, g _ h26, g _ h27, g _ h28, g _ h29, g _ h30, g _ h48, Bool.or_false]
theorem kind1 (a : Int) : ∃ u, Ev (fun k => spec_l05Kind.f k a) u ∧ u.1 = shK a := by
  by_cases h : Known a
  · obtain ⟨u, _, hu, h1, h2⟩ := kind_known a h
    exact ⟨u, hu, by rw [h1, h2]⟩
  · obtain ⟨⟨u, hu, h1⟩, h2⟩ := kind_unknown a h
    exact ⟨u, hu, by rw [h1, h2]⟩
theorem shape_ok (a : Int) (w : (Lit.int .i64 a).wf = true) : impl_shapeOf.f a = some ((shV a).1, (shV a).2.1, (shV a).2.2.1, (shV a).2.2.2.1, (shV a).2.2.2.2.1, (shV a).2.2.2.2.2, shK a) := by
  unfold impl_shapeOf.f
  rw [if_pos w]
theorem szB (l : List Int) (a : Int) (h0 : 0 ≤ a) (h1 : a ≤ 1048576) (hl : l.length ≤ 9223372036854775807) : (laws_szByteS.f l a = some (-1) ∧ a < l.length) ∨ (laws_szByteS.f l a = some (a - l.length) ∧ l.length ≤ a) := by
  simp only [laws_szByteS.f, w64 (x := a - (l.length : Int)) (by omega) (by omega)]
  by_cases c : a - (l.length : Int) < 0
  · rw [if_pos c]; exact .inl ⟨rfl, by omega⟩
  · rw [if_neg c]; exact .inr ⟨rfl, by omega⟩
theorem ex_ite {c : Prop} [Decidable c] {A B : Nat → Option Bool} {P : Bool → Prop} (h : c → ∃ r, Ev A r ∧ P r) (h' : ¬ c → ∃ r, Ev B r ∧ P r) : ∃ r, Ev (fun k => if c then A k else B k) r ∧ P r := by
  by_cases hc : c
  · simp only [hc, if_true]; exact h hc
  · simp only [hc, if_false]; exact h' hc
theorem ex_step {g f : Nat → Option Bool} {P : Bool → Prop} (e : ∀ k, g (k + 1) = f k) (h : ∃ r, Ev f r ∧ P r) : ∃ r, Ev g r ∧ P r := by
  obtain ⟨r, h1, h2⟩ := h
  exact ⟨r, Ev.step e h1, h2⟩
theorem ex_bind {α : Type} {g : Nat → Option α} {a : α} {f : Nat → α → Option Bool} {P : Bool → Prop} (hg : Ev g a) (h : ∃ r, Ev (fun k => f k a) r ∧ P r) : ∃ r, Ev (fun k => (g k).bind (f k)) r ∧ P r := by
  obtain ⟨r, h1, h2⟩ := h
  exact ⟨r, Ev.bind hg h1, h2⟩
theorem var_eq (a : Int) : spec_l05Var.f a = some (decide (0 ≤ a ∧ a ≤ 4611686018427387903)) := by
  unfold spec_l05Var.f
  by_cases h : a ≥ 0
  · rw [if_pos h]; exact congrArg some (by rw [decide_eq_decide]; omega)
  · rw [if_neg h]; exact congrArg some (decide_eq_false (by omega)).symm
/-- What makes a frame right: by its kind's table. -/
def okF (a A B C : Int) (f R : Bool) (x y z : Int) (u : Bool × Bool × Bool × Bool × Bool × Bool × Int × Int × Int) : Prop :=
  (0 ≤ A ∧ A ≤ 4611686018427387903) ∧ (0 ≤ B ∧ B ≤ 4611686018427387903) ∧ (0 ≤ C ∧ C ≤ 4611686018427387903) ∧
  (u.2.1 = true ∨ A = 0) ∧ (u.2.2.1 = true ∨ B = 0) ∧ (u.2.2.2.1 = true ∨ C = 0) ∧ (u.2.2.2.2.1 = true ∨ f = false) ∧ u.2.2.2.2.2.2.1 ≤ x ∧ x ≤ u.2.2.2.2.2.2.2.1 ∧ y = u.2.2.2.2.2.2.2.2 ∧
  (u.2.2.2.2.2.1 = true ↔ 0 < z) ∧ R = true ∧
  (a = 0 → 1 ≤ A ∧ A ≤ 1500) ∧ (a = 18 ∨ a = 22 → A ≤ 1152921504606846976 ∧ B ≤ 1) ∧ (a = 6 → A ≤ wrap64 (4611686018427387903 - x)) ∧ (a = 8 → B ≤ wrap64 (4611686018427387903 - x)) ∧ (a = 24 → B ≤ A)
theorem Ev_unique {α : Type} {g : Nat → Option α} {a b : α} (h : Ev g a) (h' : Ev g b) : a = b := by
  obtain ⟨n, hn⟩ := h
  obtain ⟨m, hm⟩ := h'
  have e1 := hn (n + m) (by omega)
  have e2 := hm (n + m) (by omega)
  rw [e1] at e2
  exact Option.some.inj e2
theorem spec_kind_0 (A B C : Int) (f R : Bool) (x y : List Int) (z : List S105) (hu : Ev (fun k => spec_l05Kind.f k 0) (true, true, false, false, false, false, 0, 0, 0)) (hR : Ev (fun k => spec_l05RangesOK.f k z) R) (hE : z.length = 0 → R = true) :
    ∃ r, Ev (fun k => spec_FrameOK.f k 0 A B C f x y z) r ∧ (r = true ↔ okF 0 A B C f R x.length y.length z.length (true, true, false, false, false, false, 0, 0, 0)) := by
  simp only [spec_FrameOK.f]
  refine ex_bind hu ?_
  simp only [if_true, if_false, Bool.false_eq_true, var_eq, Option.bind_some, decide_eq_true_eq]
  cases R <;> cases f <;>
  repeat' first
    | exact ⟨_, Ev.now _, by simp only [okF]; (try simp [-List.length_eq_zero_iff] at *); (try omega)⟩
    | refine ex_ite (fun _ => ?_) (fun _ => ?_)
    | refine ex_bind hR ?_
    | (refine ex_step (fun k => rfl) ?_; simp only [spec_FrameOK.j0, spec_FrameOK.j1, spec_FrameOK.j2, if_true, if_false, Bool.false_eq_true, Bool.not_true, Bool.not_false, decide_eq_true_eq])
theorem impl_kind_0 (A B C : Int) (f R : Bool) (x y : List Int) (z : List S105) (hu : impl_shapeOf.f 0 = some (true, false, false, false, false, false, true)) (hR : Ev (fun k => impl_rangesOK.f k z) R) (hE : z.length = 0 → R = true) :
    ∃ r, Ev (fun k => impl_FrameOK.f k 0 A B C f x y z) r ∧ (r = true ↔ okF 0 A B C f R x.length y.length z.length (true, true, false, false, false, false, 0, 0, 0)) := by
  simp only [impl_FrameOK.f, hu, Option.bind_some, inVar_eq, if_true, if_false, Bool.false_eq_true, decide_eq_true_eq]
  cases R <;> cases f <;>
  repeat' first
    | exact ⟨_, Ev.now _, by simp only [okF]; (try simp [-List.length_eq_zero_iff] at *); (try omega)⟩
    | refine ex_ite (fun _ => ?_) (fun _ => ?_)
    | refine ex_bind hR ?_
    | (refine ex_step (fun k => rfl) ?_; simp only [impl_FrameOK.j0, impl_FrameOK.j1, impl_FrameOK.j2, impl_FrameOK.j3, impl_FrameOK.j4, impl_FrameOK.j5, if_true, if_false, Bool.false_eq_true, Bool.not_true, Bool.not_false, Bool.false_and, Bool.true_and, Bool.and_false, Bool.false_or, Bool.or_false, Bool.true_or, Bool.or_true, Bool.or_eq_true, Bool.and_eq_true, bne_iff_ne, ne_eq, decide_eq_true_eq])
theorem spec_kind_1 (A B C : Int) (f R : Bool) (x y : List Int) (z : List S105) (hu : Ev (fun k => spec_l05Kind.f k 1) (true, false, false, false, false, false, 0, 0, 0)) (hR : Ev (fun k => spec_l05RangesOK.f k z) R) (hE : z.length = 0 → R = true) :
    ∃ r, Ev (fun k => spec_FrameOK.f k 1 A B C f x y z) r ∧ (r = true ↔ okF 1 A B C f R x.length y.length z.length (true, false, false, false, false, false, 0, 0, 0)) := by
  simp only [spec_FrameOK.f]
  refine ex_bind hu ?_
  simp only [if_true, if_false, Bool.false_eq_true, var_eq, Option.bind_some, decide_eq_true_eq]
  cases R <;> cases f <;>
  repeat' first
    | exact ⟨_, Ev.now _, by simp only [okF]; (try simp [-List.length_eq_zero_iff] at *); (try omega)⟩
    | refine ex_ite (fun _ => ?_) (fun _ => ?_)
    | refine ex_bind hR ?_
    | (refine ex_step (fun k => rfl) ?_; simp only [spec_FrameOK.j0, spec_FrameOK.j1, spec_FrameOK.j2, if_true, if_false, Bool.false_eq_true, Bool.not_true, Bool.not_false, decide_eq_true_eq])
theorem impl_kind_1 (A B C : Int) (f R : Bool) (x y : List Int) (z : List S105) (hu : impl_shapeOf.f 1 = some (false, false, false, false, false, false, true)) (hR : Ev (fun k => impl_rangesOK.f k z) R) (hE : z.length = 0 → R = true) :
    ∃ r, Ev (fun k => impl_FrameOK.f k 1 A B C f x y z) r ∧ (r = true ↔ okF 1 A B C f R x.length y.length z.length (true, false, false, false, false, false, 0, 0, 0)) := by
  simp only [impl_FrameOK.f, hu, Option.bind_some, inVar_eq, if_true, if_false, Bool.false_eq_true, decide_eq_true_eq]
  cases R <;> cases f <;>
  repeat' first
    | exact ⟨_, Ev.now _, by simp only [okF]; (try simp [-List.length_eq_zero_iff] at *); (try omega)⟩
    | refine ex_ite (fun _ => ?_) (fun _ => ?_)
    | refine ex_bind hR ?_
    | (refine ex_step (fun k => rfl) ?_; simp only [impl_FrameOK.j0, impl_FrameOK.j1, impl_FrameOK.j2, impl_FrameOK.j3, impl_FrameOK.j4, impl_FrameOK.j5, if_true, if_false, Bool.false_eq_true, Bool.not_true, Bool.not_false, Bool.false_and, Bool.true_and, Bool.and_false, Bool.false_or, Bool.or_false, Bool.true_or, Bool.or_true, Bool.or_eq_true, Bool.and_eq_true, bne_iff_ne, ne_eq, decide_eq_true_eq])
theorem spec_kind_2 (A B C : Int) (f R : Bool) (x y : List Int) (z : List S105) (hu : Ev (fun k => spec_l05Kind.f k 2) (true, true, false, false, false, true, 0, 0, 0)) (hR : Ev (fun k => spec_l05RangesOK.f k z) R) (hE : z.length = 0 → R = true) :
    ∃ r, Ev (fun k => spec_FrameOK.f k 2 A B C f x y z) r ∧ (r = true ↔ okF 2 A B C f R x.length y.length z.length (true, true, false, false, false, true, 0, 0, 0)) := by
  simp only [spec_FrameOK.f]
  refine ex_bind hu ?_
  simp only [if_true, if_false, Bool.false_eq_true, var_eq, Option.bind_some, decide_eq_true_eq]
  cases R <;> cases f <;>
  repeat' first
    | exact ⟨_, Ev.now _, by simp only [okF]; (try simp [-List.length_eq_zero_iff] at *); (try omega)⟩
    | refine ex_ite (fun _ => ?_) (fun _ => ?_)
    | refine ex_bind hR ?_
    | (refine ex_step (fun k => rfl) ?_; simp only [spec_FrameOK.j0, spec_FrameOK.j1, spec_FrameOK.j2, if_true, if_false, Bool.false_eq_true, Bool.not_true, Bool.not_false, decide_eq_true_eq])
theorem impl_kind_2 (A B C : Int) (f R : Bool) (x y : List Int) (z : List S105) (hu : impl_shapeOf.f 2 = some (true, false, false, false, false, true, true)) (hR : Ev (fun k => impl_rangesOK.f k z) R) (hE : z.length = 0 → R = true) :
    ∃ r, Ev (fun k => impl_FrameOK.f k 2 A B C f x y z) r ∧ (r = true ↔ okF 2 A B C f R x.length y.length z.length (true, true, false, false, false, true, 0, 0, 0)) := by
  simp only [impl_FrameOK.f, hu, Option.bind_some, inVar_eq, if_true, if_false, Bool.false_eq_true, decide_eq_true_eq]
  cases R <;> cases f <;>
  repeat' first
    | exact ⟨_, Ev.now _, by simp only [okF]; (try simp [-List.length_eq_zero_iff] at *); (try omega)⟩
    | refine ex_ite (fun _ => ?_) (fun _ => ?_)
    | refine ex_bind hR ?_
    | (refine ex_step (fun k => rfl) ?_; simp only [impl_FrameOK.j0, impl_FrameOK.j1, impl_FrameOK.j2, impl_FrameOK.j3, impl_FrameOK.j4, impl_FrameOK.j5, if_true, if_false, Bool.false_eq_true, Bool.not_true, Bool.not_false, Bool.false_and, Bool.true_and, Bool.and_false, Bool.false_or, Bool.or_false, Bool.true_or, Bool.or_true, Bool.or_eq_true, Bool.and_eq_true, bne_iff_ne, ne_eq, decide_eq_true_eq])
theorem spec_kind_4 (A B C : Int) (f R : Bool) (x y : List Int) (z : List S105) (hu : Ev (fun k => spec_l05Kind.f k 4) (true, true, true, true, false, false, 0, 0, 0)) (hR : Ev (fun k => spec_l05RangesOK.f k z) R) (hE : z.length = 0 → R = true) :
    ∃ r, Ev (fun k => spec_FrameOK.f k 4 A B C f x y z) r ∧ (r = true ↔ okF 4 A B C f R x.length y.length z.length (true, true, true, true, false, false, 0, 0, 0)) := by
  simp only [spec_FrameOK.f]
  refine ex_bind hu ?_
  simp only [if_true, if_false, Bool.false_eq_true, var_eq, Option.bind_some, decide_eq_true_eq]
  cases R <;> cases f <;>
  repeat' first
    | exact ⟨_, Ev.now _, by simp only [okF]; (try simp [-List.length_eq_zero_iff] at *); (try omega)⟩
    | refine ex_ite (fun _ => ?_) (fun _ => ?_)
    | refine ex_bind hR ?_
    | (refine ex_step (fun k => rfl) ?_; simp only [spec_FrameOK.j0, spec_FrameOK.j1, spec_FrameOK.j2, if_true, if_false, Bool.false_eq_true, Bool.not_true, Bool.not_false, decide_eq_true_eq])
theorem impl_kind_4 (A B C : Int) (f R : Bool) (x y : List Int) (z : List S105) (hu : impl_shapeOf.f 4 = some (true, true, false, false, false, false, true)) (hR : Ev (fun k => impl_rangesOK.f k z) R) (hE : z.length = 0 → R = true) :
    ∃ r, Ev (fun k => impl_FrameOK.f k 4 A B C f x y z) r ∧ (r = true ↔ okF 4 A B C f R x.length y.length z.length (true, true, true, true, false, false, 0, 0, 0)) := by
  simp only [impl_FrameOK.f, hu, Option.bind_some, inVar_eq, if_true, if_false, Bool.false_eq_true, decide_eq_true_eq]
  cases R <;> cases f <;>
  repeat' first
    | exact ⟨_, Ev.now _, by simp only [okF]; (try simp [-List.length_eq_zero_iff] at *); (try omega)⟩
    | refine ex_ite (fun _ => ?_) (fun _ => ?_)
    | refine ex_bind hR ?_
    | (refine ex_step (fun k => rfl) ?_; simp only [impl_FrameOK.j0, impl_FrameOK.j1, impl_FrameOK.j2, impl_FrameOK.j3, impl_FrameOK.j4, impl_FrameOK.j5, if_true, if_false, Bool.false_eq_true, Bool.not_true, Bool.not_false, Bool.false_and, Bool.true_and, Bool.and_false, Bool.false_or, Bool.or_false, Bool.true_or, Bool.or_true, Bool.or_eq_true, Bool.and_eq_true, bne_iff_ne, ne_eq, decide_eq_true_eq])
theorem spec_kind_5 (A B C : Int) (f R : Bool) (x y : List Int) (z : List S105) (hu : Ev (fun k => spec_l05Kind.f k 5) (true, true, true, false, false, false, 0, 0, 0)) (hR : Ev (fun k => spec_l05RangesOK.f k z) R) (hE : z.length = 0 → R = true) :
    ∃ r, Ev (fun k => spec_FrameOK.f k 5 A B C f x y z) r ∧ (r = true ↔ okF 5 A B C f R x.length y.length z.length (true, true, true, false, false, false, 0, 0, 0)) := by
  simp only [spec_FrameOK.f]
  refine ex_bind hu ?_
  simp only [if_true, if_false, Bool.false_eq_true, var_eq, Option.bind_some, decide_eq_true_eq]
  cases R <;> cases f <;>
  repeat' first
    | exact ⟨_, Ev.now _, by simp only [okF]; (try simp [-List.length_eq_zero_iff] at *); (try omega)⟩
    | refine ex_ite (fun _ => ?_) (fun _ => ?_)
    | refine ex_bind hR ?_
    | (refine ex_step (fun k => rfl) ?_; simp only [spec_FrameOK.j0, spec_FrameOK.j1, spec_FrameOK.j2, if_true, if_false, Bool.false_eq_true, Bool.not_true, Bool.not_false, decide_eq_true_eq])
theorem impl_kind_5 (A B C : Int) (f R : Bool) (x y : List Int) (z : List S105) (hu : impl_shapeOf.f 5 = some (true, true, false, false, false, false, true)) (hR : Ev (fun k => impl_rangesOK.f k z) R) (hE : z.length = 0 → R = true) :
    ∃ r, Ev (fun k => impl_FrameOK.f k 5 A B C f x y z) r ∧ (r = true ↔ okF 5 A B C f R x.length y.length z.length (true, true, true, false, false, false, 0, 0, 0)) := by
  simp only [impl_FrameOK.f, hu, Option.bind_some, inVar_eq, if_true, if_false, Bool.false_eq_true, decide_eq_true_eq]
  cases R <;> cases f <;>
  repeat' first
    | exact ⟨_, Ev.now _, by simp only [okF]; (try simp [-List.length_eq_zero_iff] at *); (try omega)⟩
    | refine ex_ite (fun _ => ?_) (fun _ => ?_)
    | refine ex_bind hR ?_
    | (refine ex_step (fun k => rfl) ?_; simp only [impl_FrameOK.j0, impl_FrameOK.j1, impl_FrameOK.j2, impl_FrameOK.j3, impl_FrameOK.j4, impl_FrameOK.j5, if_true, if_false, Bool.false_eq_true, Bool.not_true, Bool.not_false, Bool.false_and, Bool.true_and, Bool.and_false, Bool.false_or, Bool.or_false, Bool.true_or, Bool.or_true, Bool.or_eq_true, Bool.and_eq_true, bne_iff_ne, ne_eq, decide_eq_true_eq])
theorem spec_kind_6 (A B C : Int) (f R : Bool) (x y : List Int) (z : List S105) (hu : Ev (fun k => spec_l05Kind.f k 6) (true, true, false, false, false, false, 0, 1500, 0)) (hR : Ev (fun k => spec_l05RangesOK.f k z) R) (hE : z.length = 0 → R = true) :
    ∃ r, Ev (fun k => spec_FrameOK.f k 6 A B C f x y z) r ∧ (r = true ↔ okF 6 A B C f R x.length y.length z.length (true, true, false, false, false, false, 0, 1500, 0)) := by
  simp only [spec_FrameOK.f]
  refine ex_bind hu ?_
  simp only [if_true, if_false, Bool.false_eq_true, var_eq, Option.bind_some, decide_eq_true_eq]
  cases R <;> cases f <;>
  repeat' first
    | exact ⟨_, Ev.now _, by simp only [okF]; (try simp [-List.length_eq_zero_iff] at *); (try omega)⟩
    | refine ex_ite (fun _ => ?_) (fun _ => ?_)
    | refine ex_bind hR ?_
    | (refine ex_step (fun k => rfl) ?_; simp only [spec_FrameOK.j0, spec_FrameOK.j1, spec_FrameOK.j2, if_true, if_false, Bool.false_eq_true, Bool.not_true, Bool.not_false, decide_eq_true_eq])
theorem impl_kind_6 (A B C : Int) (f R : Bool) (x y : List Int) (z : List S105) (hu : impl_shapeOf.f 6 = some (true, false, false, true, false, false, true)) (hR : Ev (fun k => impl_rangesOK.f k z) R) (hE : z.length = 0 → R = true) :
    ∃ r, Ev (fun k => impl_FrameOK.f k 6 A B C f x y z) r ∧ (r = true ↔ okF 6 A B C f R x.length y.length z.length (true, true, false, false, false, false, 0, 1500, 0)) := by
  simp only [impl_FrameOK.f, hu, Option.bind_some, inVar_eq, if_true, if_false, Bool.false_eq_true, decide_eq_true_eq]
  cases R <;> cases f <;>
  repeat' first
    | exact ⟨_, Ev.now _, by simp only [okF]; (try simp [-List.length_eq_zero_iff] at *); (try omega)⟩
    | refine ex_ite (fun _ => ?_) (fun _ => ?_)
    | refine ex_bind hR ?_
    | (refine ex_step (fun k => rfl) ?_; simp only [impl_FrameOK.j0, impl_FrameOK.j1, impl_FrameOK.j2, impl_FrameOK.j3, impl_FrameOK.j4, impl_FrameOK.j5, if_true, if_false, Bool.false_eq_true, Bool.not_true, Bool.not_false, Bool.false_and, Bool.true_and, Bool.and_false, Bool.false_or, Bool.or_false, Bool.true_or, Bool.or_true, Bool.or_eq_true, Bool.and_eq_true, bne_iff_ne, ne_eq, decide_eq_true_eq])
theorem spec_kind_7 (A B C : Int) (f R : Bool) (x y : List Int) (z : List S105) (hu : Ev (fun k => spec_l05Kind.f k 7) (true, false, false, false, false, false, 1, 64, 0)) (hR : Ev (fun k => spec_l05RangesOK.f k z) R) (hE : z.length = 0 → R = true) :
    ∃ r, Ev (fun k => spec_FrameOK.f k 7 A B C f x y z) r ∧ (r = true ↔ okF 7 A B C f R x.length y.length z.length (true, false, false, false, false, false, 1, 64, 0)) := by
  simp only [spec_FrameOK.f]
  refine ex_bind hu ?_
  simp only [if_true, if_false, Bool.false_eq_true, var_eq, Option.bind_some, decide_eq_true_eq]
  cases R <;> cases f <;>
  repeat' first
    | exact ⟨_, Ev.now _, by simp only [okF]; (try simp [-List.length_eq_zero_iff] at *); (try omega)⟩
    | refine ex_ite (fun _ => ?_) (fun _ => ?_)
    | refine ex_bind hR ?_
    | (refine ex_step (fun k => rfl) ?_; simp only [spec_FrameOK.j0, spec_FrameOK.j1, spec_FrameOK.j2, if_true, if_false, Bool.false_eq_true, Bool.not_true, Bool.not_false, decide_eq_true_eq])
theorem impl_kind_7 (A B C : Int) (f R : Bool) (x y : List Int) (z : List S105) (hu : impl_shapeOf.f 7 = some (false, false, false, true, false, false, true)) (hR : Ev (fun k => impl_rangesOK.f k z) R) (hE : z.length = 0 → R = true) :
    ∃ r, Ev (fun k => impl_FrameOK.f k 7 A B C f x y z) r ∧ (r = true ↔ okF 7 A B C f R x.length y.length z.length (true, false, false, false, false, false, 1, 64, 0)) := by
  simp only [impl_FrameOK.f, hu, Option.bind_some, inVar_eq, if_true, if_false, Bool.false_eq_true, decide_eq_true_eq]
  cases R <;> cases f <;>
  repeat' first
    | exact ⟨_, Ev.now _, by simp only [okF]; (try simp [-List.length_eq_zero_iff] at *); (try omega)⟩
    | refine ex_ite (fun _ => ?_) (fun _ => ?_)
    | refine ex_bind hR ?_
    | (refine ex_step (fun k => rfl) ?_; simp only [impl_FrameOK.j0, impl_FrameOK.j1, impl_FrameOK.j2, impl_FrameOK.j3, impl_FrameOK.j4, impl_FrameOK.j5, if_true, if_false, Bool.false_eq_true, Bool.not_true, Bool.not_false, Bool.false_and, Bool.true_and, Bool.and_false, Bool.false_or, Bool.or_false, Bool.true_or, Bool.or_true, Bool.or_eq_true, Bool.and_eq_true, bne_iff_ne, ne_eq, decide_eq_true_eq])
theorem spec_kind_8 (A B C : Int) (f R : Bool) (x y : List Int) (z : List S105) (hu : Ev (fun k => spec_l05Kind.f k 8) (true, true, true, false, true, false, 0, 1500, 0)) (hR : Ev (fun k => spec_l05RangesOK.f k z) R) (hE : z.length = 0 → R = true) :
    ∃ r, Ev (fun k => spec_FrameOK.f k 8 A B C f x y z) r ∧ (r = true ↔ okF 8 A B C f R x.length y.length z.length (true, true, true, false, true, false, 0, 1500, 0)) := by
  simp only [spec_FrameOK.f]
  refine ex_bind hu ?_
  simp only [if_true, if_false, Bool.false_eq_true, var_eq, Option.bind_some, decide_eq_true_eq]
  cases R <;> cases f <;>
  repeat' first
    | exact ⟨_, Ev.now _, by simp only [okF]; (try simp [-List.length_eq_zero_iff] at *); (try omega)⟩
    | refine ex_ite (fun _ => ?_) (fun _ => ?_)
    | refine ex_bind hR ?_
    | (refine ex_step (fun k => rfl) ?_; simp only [spec_FrameOK.j0, spec_FrameOK.j1, spec_FrameOK.j2, if_true, if_false, Bool.false_eq_true, Bool.not_true, Bool.not_false, decide_eq_true_eq])
theorem impl_kind_8 (A B C : Int) (f R : Bool) (x y : List Int) (z : List S105) (hu : impl_shapeOf.f 8 = some (true, true, true, true, false, false, true)) (hR : Ev (fun k => impl_rangesOK.f k z) R) (hE : z.length = 0 → R = true) :
    ∃ r, Ev (fun k => impl_FrameOK.f k 8 A B C f x y z) r ∧ (r = true ↔ okF 8 A B C f R x.length y.length z.length (true, true, true, false, true, false, 0, 1500, 0)) := by
  simp only [impl_FrameOK.f, hu, Option.bind_some, inVar_eq, if_true, if_false, Bool.false_eq_true, decide_eq_true_eq]
  cases R <;> cases f <;>
  repeat' first
    | exact ⟨_, Ev.now _, by simp only [okF]; (try simp [-List.length_eq_zero_iff] at *); (try omega)⟩
    | refine ex_ite (fun _ => ?_) (fun _ => ?_)
    | refine ex_bind hR ?_
    | (refine ex_step (fun k => rfl) ?_; simp only [impl_FrameOK.j0, impl_FrameOK.j1, impl_FrameOK.j2, impl_FrameOK.j3, impl_FrameOK.j4, impl_FrameOK.j5, if_true, if_false, Bool.false_eq_true, Bool.not_true, Bool.not_false, Bool.false_and, Bool.true_and, Bool.and_false, Bool.false_or, Bool.or_false, Bool.true_or, Bool.or_true, Bool.or_eq_true, Bool.and_eq_true, bne_iff_ne, ne_eq, decide_eq_true_eq])
theorem spec_kind_16 (A B C : Int) (f R : Bool) (x y : List Int) (z : List S105) (hu : Ev (fun k => spec_l05Kind.f k 16) (true, true, false, false, false, false, 0, 0, 0)) (hR : Ev (fun k => spec_l05RangesOK.f k z) R) (hE : z.length = 0 → R = true) :
    ∃ r, Ev (fun k => spec_FrameOK.f k 16 A B C f x y z) r ∧ (r = true ↔ okF 16 A B C f R x.length y.length z.length (true, true, false, false, false, false, 0, 0, 0)) := by
  simp only [spec_FrameOK.f]
  refine ex_bind hu ?_
  simp only [if_true, if_false, Bool.false_eq_true, var_eq, Option.bind_some, decide_eq_true_eq]
  cases R <;> cases f <;>
  repeat' first
    | exact ⟨_, Ev.now _, by simp only [okF]; (try simp [-List.length_eq_zero_iff] at *); (try omega)⟩
    | refine ex_ite (fun _ => ?_) (fun _ => ?_)
    | refine ex_bind hR ?_
    | (refine ex_step (fun k => rfl) ?_; simp only [spec_FrameOK.j0, spec_FrameOK.j1, spec_FrameOK.j2, if_true, if_false, Bool.false_eq_true, Bool.not_true, Bool.not_false, decide_eq_true_eq])
theorem impl_kind_16 (A B C : Int) (f R : Bool) (x y : List Int) (z : List S105) (hu : impl_shapeOf.f 16 = some (true, false, false, false, false, false, true)) (hR : Ev (fun k => impl_rangesOK.f k z) R) (hE : z.length = 0 → R = true) :
    ∃ r, Ev (fun k => impl_FrameOK.f k 16 A B C f x y z) r ∧ (r = true ↔ okF 16 A B C f R x.length y.length z.length (true, true, false, false, false, false, 0, 0, 0)) := by
  simp only [impl_FrameOK.f, hu, Option.bind_some, inVar_eq, if_true, if_false, Bool.false_eq_true, decide_eq_true_eq]
  cases R <;> cases f <;>
  repeat' first
    | exact ⟨_, Ev.now _, by simp only [okF]; (try simp [-List.length_eq_zero_iff] at *); (try omega)⟩
    | refine ex_ite (fun _ => ?_) (fun _ => ?_)
    | refine ex_bind hR ?_
    | (refine ex_step (fun k => rfl) ?_; simp only [impl_FrameOK.j0, impl_FrameOK.j1, impl_FrameOK.j2, impl_FrameOK.j3, impl_FrameOK.j4, impl_FrameOK.j5, if_true, if_false, Bool.false_eq_true, Bool.not_true, Bool.not_false, Bool.false_and, Bool.true_and, Bool.and_false, Bool.false_or, Bool.or_false, Bool.true_or, Bool.or_true, Bool.or_eq_true, Bool.and_eq_true, bne_iff_ne, ne_eq, decide_eq_true_eq])
theorem spec_kind_17 (A B C : Int) (f R : Bool) (x y : List Int) (z : List S105) (hu : Ev (fun k => spec_l05Kind.f k 17) (true, true, true, false, false, false, 0, 0, 0)) (hR : Ev (fun k => spec_l05RangesOK.f k z) R) (hE : z.length = 0 → R = true) :
    ∃ r, Ev (fun k => spec_FrameOK.f k 17 A B C f x y z) r ∧ (r = true ↔ okF 17 A B C f R x.length y.length z.length (true, true, true, false, false, false, 0, 0, 0)) := by
  simp only [spec_FrameOK.f]
  refine ex_bind hu ?_
  simp only [if_true, if_false, Bool.false_eq_true, var_eq, Option.bind_some, decide_eq_true_eq]
  cases R <;> cases f <;>
  repeat' first
    | exact ⟨_, Ev.now _, by simp only [okF]; (try simp [-List.length_eq_zero_iff] at *); (try omega)⟩
    | refine ex_ite (fun _ => ?_) (fun _ => ?_)
    | refine ex_bind hR ?_
    | (refine ex_step (fun k => rfl) ?_; simp only [spec_FrameOK.j0, spec_FrameOK.j1, spec_FrameOK.j2, if_true, if_false, Bool.false_eq_true, Bool.not_true, Bool.not_false, decide_eq_true_eq])
theorem impl_kind_17 (A B C : Int) (f R : Bool) (x y : List Int) (z : List S105) (hu : impl_shapeOf.f 17 = some (true, true, false, false, false, false, true)) (hR : Ev (fun k => impl_rangesOK.f k z) R) (hE : z.length = 0 → R = true) :
    ∃ r, Ev (fun k => impl_FrameOK.f k 17 A B C f x y z) r ∧ (r = true ↔ okF 17 A B C f R x.length y.length z.length (true, true, true, false, false, false, 0, 0, 0)) := by
  simp only [impl_FrameOK.f, hu, Option.bind_some, inVar_eq, if_true, if_false, Bool.false_eq_true, decide_eq_true_eq]
  cases R <;> cases f <;>
  repeat' first
    | exact ⟨_, Ev.now _, by simp only [okF]; (try simp [-List.length_eq_zero_iff] at *); (try omega)⟩
    | refine ex_ite (fun _ => ?_) (fun _ => ?_)
    | refine ex_bind hR ?_
    | (refine ex_step (fun k => rfl) ?_; simp only [impl_FrameOK.j0, impl_FrameOK.j1, impl_FrameOK.j2, impl_FrameOK.j3, impl_FrameOK.j4, impl_FrameOK.j5, if_true, if_false, Bool.false_eq_true, Bool.not_true, Bool.not_false, Bool.false_and, Bool.true_and, Bool.and_false, Bool.false_or, Bool.or_false, Bool.true_or, Bool.or_true, Bool.or_eq_true, Bool.and_eq_true, bne_iff_ne, ne_eq, decide_eq_true_eq])
theorem spec_kind_18 (A B C : Int) (f R : Bool) (x y : List Int) (z : List S105) (hu : Ev (fun k => spec_l05Kind.f k 18) (true, true, true, false, false, false, 0, 0, 0)) (hR : Ev (fun k => spec_l05RangesOK.f k z) R) (hE : z.length = 0 → R = true) :
    ∃ r, Ev (fun k => spec_FrameOK.f k 18 A B C f x y z) r ∧ (r = true ↔ okF 18 A B C f R x.length y.length z.length (true, true, true, false, false, false, 0, 0, 0)) := by
  simp only [spec_FrameOK.f]
  refine ex_bind hu ?_
  simp only [if_true, if_false, Bool.false_eq_true, var_eq, Option.bind_some, decide_eq_true_eq]
  cases R <;> cases f <;>
  repeat' first
    | exact ⟨_, Ev.now _, by simp only [okF]; (try simp [-List.length_eq_zero_iff] at *); (try omega)⟩
    | refine ex_ite (fun _ => ?_) (fun _ => ?_)
    | refine ex_bind hR ?_
    | (refine ex_step (fun k => rfl) ?_; simp only [spec_FrameOK.j0, spec_FrameOK.j1, spec_FrameOK.j2, if_true, if_false, Bool.false_eq_true, Bool.not_true, Bool.not_false, decide_eq_true_eq])
theorem impl_kind_18 (A B C : Int) (f R : Bool) (x y : List Int) (z : List S105) (hu : impl_shapeOf.f 18 = some (true, true, false, false, false, false, true)) (hR : Ev (fun k => impl_rangesOK.f k z) R) (hE : z.length = 0 → R = true) :
    ∃ r, Ev (fun k => impl_FrameOK.f k 18 A B C f x y z) r ∧ (r = true ↔ okF 18 A B C f R x.length y.length z.length (true, true, true, false, false, false, 0, 0, 0)) := by
  simp only [impl_FrameOK.f, hu, Option.bind_some, inVar_eq, if_true, if_false, Bool.false_eq_true, decide_eq_true_eq]
  cases R <;> cases f <;>
  repeat' first
    | exact ⟨_, Ev.now _, by simp only [okF]; (try simp [-List.length_eq_zero_iff] at *); (try omega)⟩
    | refine ex_ite (fun _ => ?_) (fun _ => ?_)
    | refine ex_bind hR ?_
    | (refine ex_step (fun k => rfl) ?_; simp only [impl_FrameOK.j0, impl_FrameOK.j1, impl_FrameOK.j2, impl_FrameOK.j3, impl_FrameOK.j4, impl_FrameOK.j5, if_true, if_false, Bool.false_eq_true, Bool.not_true, Bool.not_false, Bool.false_and, Bool.true_and, Bool.and_false, Bool.false_or, Bool.or_false, Bool.true_or, Bool.or_true, Bool.or_eq_true, Bool.and_eq_true, bne_iff_ne, ne_eq, decide_eq_true_eq])
theorem spec_kind_20 (A B C : Int) (f R : Bool) (x y : List Int) (z : List S105) (hu : Ev (fun k => spec_l05Kind.f k 20) (true, true, false, false, false, false, 0, 0, 0)) (hR : Ev (fun k => spec_l05RangesOK.f k z) R) (hE : z.length = 0 → R = true) :
    ∃ r, Ev (fun k => spec_FrameOK.f k 20 A B C f x y z) r ∧ (r = true ↔ okF 20 A B C f R x.length y.length z.length (true, true, false, false, false, false, 0, 0, 0)) := by
  simp only [spec_FrameOK.f]
  refine ex_bind hu ?_
  simp only [if_true, if_false, Bool.false_eq_true, var_eq, Option.bind_some, decide_eq_true_eq]
  cases R <;> cases f <;>
  repeat' first
    | exact ⟨_, Ev.now _, by simp only [okF]; (try simp [-List.length_eq_zero_iff] at *); (try omega)⟩
    | refine ex_ite (fun _ => ?_) (fun _ => ?_)
    | refine ex_bind hR ?_
    | (refine ex_step (fun k => rfl) ?_; simp only [spec_FrameOK.j0, spec_FrameOK.j1, spec_FrameOK.j2, if_true, if_false, Bool.false_eq_true, Bool.not_true, Bool.not_false, decide_eq_true_eq])
theorem impl_kind_20 (A B C : Int) (f R : Bool) (x y : List Int) (z : List S105) (hu : impl_shapeOf.f 20 = some (true, false, false, false, false, false, true)) (hR : Ev (fun k => impl_rangesOK.f k z) R) (hE : z.length = 0 → R = true) :
    ∃ r, Ev (fun k => impl_FrameOK.f k 20 A B C f x y z) r ∧ (r = true ↔ okF 20 A B C f R x.length y.length z.length (true, true, false, false, false, false, 0, 0, 0)) := by
  simp only [impl_FrameOK.f, hu, Option.bind_some, inVar_eq, if_true, if_false, Bool.false_eq_true, decide_eq_true_eq]
  cases R <;> cases f <;>
  repeat' first
    | exact ⟨_, Ev.now _, by simp only [okF]; (try simp [-List.length_eq_zero_iff] at *); (try omega)⟩
    | refine ex_ite (fun _ => ?_) (fun _ => ?_)
    | refine ex_bind hR ?_
    | (refine ex_step (fun k => rfl) ?_; simp only [impl_FrameOK.j0, impl_FrameOK.j1, impl_FrameOK.j2, impl_FrameOK.j3, impl_FrameOK.j4, impl_FrameOK.j5, if_true, if_false, Bool.false_eq_true, Bool.not_true, Bool.not_false, Bool.false_and, Bool.true_and, Bool.and_false, Bool.false_or, Bool.or_false, Bool.true_or, Bool.or_true, Bool.or_eq_true, Bool.and_eq_true, bne_iff_ne, ne_eq, decide_eq_true_eq])
theorem spec_kind_21 (A B C : Int) (f R : Bool) (x y : List Int) (z : List S105) (hu : Ev (fun k => spec_l05Kind.f k 21) (true, true, true, false, false, false, 0, 0, 0)) (hR : Ev (fun k => spec_l05RangesOK.f k z) R) (hE : z.length = 0 → R = true) :
    ∃ r, Ev (fun k => spec_FrameOK.f k 21 A B C f x y z) r ∧ (r = true ↔ okF 21 A B C f R x.length y.length z.length (true, true, true, false, false, false, 0, 0, 0)) := by
  simp only [spec_FrameOK.f]
  refine ex_bind hu ?_
  simp only [if_true, if_false, Bool.false_eq_true, var_eq, Option.bind_some, decide_eq_true_eq]
  cases R <;> cases f <;>
  repeat' first
    | exact ⟨_, Ev.now _, by simp only [okF]; (try simp [-List.length_eq_zero_iff] at *); (try omega)⟩
    | refine ex_ite (fun _ => ?_) (fun _ => ?_)
    | refine ex_bind hR ?_
    | (refine ex_step (fun k => rfl) ?_; simp only [spec_FrameOK.j0, spec_FrameOK.j1, spec_FrameOK.j2, if_true, if_false, Bool.false_eq_true, Bool.not_true, Bool.not_false, decide_eq_true_eq])
theorem impl_kind_21 (A B C : Int) (f R : Bool) (x y : List Int) (z : List S105) (hu : impl_shapeOf.f 21 = some (true, true, false, false, false, false, true)) (hR : Ev (fun k => impl_rangesOK.f k z) R) (hE : z.length = 0 → R = true) :
    ∃ r, Ev (fun k => impl_FrameOK.f k 21 A B C f x y z) r ∧ (r = true ↔ okF 21 A B C f R x.length y.length z.length (true, true, true, false, false, false, 0, 0, 0)) := by
  simp only [impl_FrameOK.f, hu, Option.bind_some, inVar_eq, if_true, if_false, Bool.false_eq_true, decide_eq_true_eq]
  cases R <;> cases f <;>
  repeat' first
    | exact ⟨_, Ev.now _, by simp only [okF]; (try simp [-List.length_eq_zero_iff] at *); (try omega)⟩
    | refine ex_ite (fun _ => ?_) (fun _ => ?_)
    | refine ex_bind hR ?_
    | (refine ex_step (fun k => rfl) ?_; simp only [impl_FrameOK.j0, impl_FrameOK.j1, impl_FrameOK.j2, impl_FrameOK.j3, impl_FrameOK.j4, impl_FrameOK.j5, if_true, if_false, Bool.false_eq_true, Bool.not_true, Bool.not_false, Bool.false_and, Bool.true_and, Bool.and_false, Bool.false_or, Bool.or_false, Bool.true_or, Bool.or_true, Bool.or_eq_true, Bool.and_eq_true, bne_iff_ne, ne_eq, decide_eq_true_eq])
theorem spec_kind_22 (A B C : Int) (f R : Bool) (x y : List Int) (z : List S105) (hu : Ev (fun k => spec_l05Kind.f k 22) (true, true, true, false, false, false, 0, 0, 0)) (hR : Ev (fun k => spec_l05RangesOK.f k z) R) (hE : z.length = 0 → R = true) :
    ∃ r, Ev (fun k => spec_FrameOK.f k 22 A B C f x y z) r ∧ (r = true ↔ okF 22 A B C f R x.length y.length z.length (true, true, true, false, false, false, 0, 0, 0)) := by
  simp only [spec_FrameOK.f]
  refine ex_bind hu ?_
  simp only [if_true, if_false, Bool.false_eq_true, var_eq, Option.bind_some, decide_eq_true_eq]
  cases R <;> cases f <;>
  repeat' first
    | exact ⟨_, Ev.now _, by simp only [okF]; (try simp [-List.length_eq_zero_iff] at *); (try omega)⟩
    | refine ex_ite (fun _ => ?_) (fun _ => ?_)
    | refine ex_bind hR ?_
    | (refine ex_step (fun k => rfl) ?_; simp only [spec_FrameOK.j0, spec_FrameOK.j1, spec_FrameOK.j2, if_true, if_false, Bool.false_eq_true, Bool.not_true, Bool.not_false, decide_eq_true_eq])
theorem impl_kind_22 (A B C : Int) (f R : Bool) (x y : List Int) (z : List S105) (hu : impl_shapeOf.f 22 = some (true, true, false, false, false, false, true)) (hR : Ev (fun k => impl_rangesOK.f k z) R) (hE : z.length = 0 → R = true) :
    ∃ r, Ev (fun k => impl_FrameOK.f k 22 A B C f x y z) r ∧ (r = true ↔ okF 22 A B C f R x.length y.length z.length (true, true, true, false, false, false, 0, 0, 0)) := by
  simp only [impl_FrameOK.f, hu, Option.bind_some, inVar_eq, if_true, if_false, Bool.false_eq_true, decide_eq_true_eq]
  cases R <;> cases f <;>
  repeat' first
    | exact ⟨_, Ev.now _, by simp only [okF]; (try simp [-List.length_eq_zero_iff] at *); (try omega)⟩
    | refine ex_ite (fun _ => ?_) (fun _ => ?_)
    | refine ex_bind hR ?_
    | (refine ex_step (fun k => rfl) ?_; simp only [impl_FrameOK.j0, impl_FrameOK.j1, impl_FrameOK.j2, impl_FrameOK.j3, impl_FrameOK.j4, impl_FrameOK.j5, if_true, if_false, Bool.false_eq_true, Bool.not_true, Bool.not_false, Bool.false_and, Bool.true_and, Bool.and_false, Bool.false_or, Bool.or_false, Bool.true_or, Bool.or_true, Bool.or_eq_true, Bool.and_eq_true, bne_iff_ne, ne_eq, decide_eq_true_eq])
theorem spec_kind_24 (A B C : Int) (f R : Bool) (x y : List Int) (z : List S105) (hu : Ev (fun k => spec_l05Kind.f k 24) (true, true, true, false, false, false, 1, 8, 8)) (hR : Ev (fun k => spec_l05RangesOK.f k z) R) (hE : z.length = 0 → R = true) :
    ∃ r, Ev (fun k => spec_FrameOK.f k 24 A B C f x y z) r ∧ (r = true ↔ okF 24 A B C f R x.length y.length z.length (true, true, true, false, false, false, 1, 8, 8)) := by
  simp only [spec_FrameOK.f]
  refine ex_bind hu ?_
  simp only [if_true, if_false, Bool.false_eq_true, var_eq, Option.bind_some, decide_eq_true_eq]
  cases R <;> cases f <;>
  repeat' first
    | exact ⟨_, Ev.now _, by simp only [okF]; (try simp [-List.length_eq_zero_iff] at *); (try omega)⟩
    | refine ex_ite (fun _ => ?_) (fun _ => ?_)
    | refine ex_bind hR ?_
    | (refine ex_step (fun k => rfl) ?_; simp only [spec_FrameOK.j0, spec_FrameOK.j1, spec_FrameOK.j2, if_true, if_false, Bool.false_eq_true, Bool.not_true, Bool.not_false, decide_eq_true_eq])
theorem impl_kind_24 (A B C : Int) (f R : Bool) (x y : List Int) (z : List S105) (hu : impl_shapeOf.f 24 = some (true, true, false, true, true, false, true)) (hR : Ev (fun k => impl_rangesOK.f k z) R) (hE : z.length = 0 → R = true) :
    ∃ r, Ev (fun k => impl_FrameOK.f k 24 A B C f x y z) r ∧ (r = true ↔ okF 24 A B C f R x.length y.length z.length (true, true, true, false, false, false, 1, 8, 8)) := by
  simp only [impl_FrameOK.f, hu, Option.bind_some, inVar_eq, if_true, if_false, Bool.false_eq_true, decide_eq_true_eq]
  cases R <;> cases f <;>
  repeat' first
    | exact ⟨_, Ev.now _, by simp only [okF]; (try simp [-List.length_eq_zero_iff] at *); (try omega)⟩
    | refine ex_ite (fun _ => ?_) (fun _ => ?_)
    | refine ex_bind hR ?_
    | (refine ex_step (fun k => rfl) ?_; simp only [impl_FrameOK.j0, impl_FrameOK.j1, impl_FrameOK.j2, impl_FrameOK.j3, impl_FrameOK.j4, impl_FrameOK.j5, if_true, if_false, Bool.false_eq_true, Bool.not_true, Bool.not_false, Bool.false_and, Bool.true_and, Bool.and_false, Bool.false_or, Bool.or_false, Bool.true_or, Bool.or_true, Bool.or_eq_true, Bool.and_eq_true, bne_iff_ne, ne_eq, decide_eq_true_eq])
theorem spec_kind_25 (A B C : Int) (f R : Bool) (x y : List Int) (z : List S105) (hu : Ev (fun k => spec_l05Kind.f k 25) (true, true, false, false, false, false, 0, 0, 0)) (hR : Ev (fun k => spec_l05RangesOK.f k z) R) (hE : z.length = 0 → R = true) :
    ∃ r, Ev (fun k => spec_FrameOK.f k 25 A B C f x y z) r ∧ (r = true ↔ okF 25 A B C f R x.length y.length z.length (true, true, false, false, false, false, 0, 0, 0)) := by
  simp only [spec_FrameOK.f]
  refine ex_bind hu ?_
  simp only [if_true, if_false, Bool.false_eq_true, var_eq, Option.bind_some, decide_eq_true_eq]
  cases R <;> cases f <;>
  repeat' first
    | exact ⟨_, Ev.now _, by simp only [okF]; (try simp [-List.length_eq_zero_iff] at *); (try omega)⟩
    | refine ex_ite (fun _ => ?_) (fun _ => ?_)
    | refine ex_bind hR ?_
    | (refine ex_step (fun k => rfl) ?_; simp only [spec_FrameOK.j0, spec_FrameOK.j1, spec_FrameOK.j2, if_true, if_false, Bool.false_eq_true, Bool.not_true, Bool.not_false, decide_eq_true_eq])
theorem impl_kind_25 (A B C : Int) (f R : Bool) (x y : List Int) (z : List S105) (hu : impl_shapeOf.f 25 = some (true, false, false, false, false, false, true)) (hR : Ev (fun k => impl_rangesOK.f k z) R) (hE : z.length = 0 → R = true) :
    ∃ r, Ev (fun k => impl_FrameOK.f k 25 A B C f x y z) r ∧ (r = true ↔ okF 25 A B C f R x.length y.length z.length (true, true, false, false, false, false, 0, 0, 0)) := by
  simp only [impl_FrameOK.f, hu, Option.bind_some, inVar_eq, if_true, if_false, Bool.false_eq_true, decide_eq_true_eq]
  cases R <;> cases f <;>
  repeat' first
    | exact ⟨_, Ev.now _, by simp only [okF]; (try simp [-List.length_eq_zero_iff] at *); (try omega)⟩
    | refine ex_ite (fun _ => ?_) (fun _ => ?_)
    | refine ex_bind hR ?_
    | (refine ex_step (fun k => rfl) ?_; simp only [impl_FrameOK.j0, impl_FrameOK.j1, impl_FrameOK.j2, impl_FrameOK.j3, impl_FrameOK.j4, impl_FrameOK.j5, if_true, if_false, Bool.false_eq_true, Bool.not_true, Bool.not_false, Bool.false_and, Bool.true_and, Bool.and_false, Bool.false_or, Bool.or_false, Bool.true_or, Bool.or_true, Bool.or_eq_true, Bool.and_eq_true, bne_iff_ne, ne_eq, decide_eq_true_eq])
theorem spec_kind_26 (A B C : Int) (f R : Bool) (x y : List Int) (z : List S105) (hu : Ev (fun k => spec_l05Kind.f k 26) (true, false, false, false, false, false, 8, 8, 0)) (hR : Ev (fun k => spec_l05RangesOK.f k z) R) (hE : z.length = 0 → R = true) :
    ∃ r, Ev (fun k => spec_FrameOK.f k 26 A B C f x y z) r ∧ (r = true ↔ okF 26 A B C f R x.length y.length z.length (true, false, false, false, false, false, 8, 8, 0)) := by
  simp only [spec_FrameOK.f]
  refine ex_bind hu ?_
  simp only [if_true, if_false, Bool.false_eq_true, var_eq, Option.bind_some, decide_eq_true_eq]
  cases R <;> cases f <;>
  repeat' first
    | exact ⟨_, Ev.now _, by simp only [okF]; (try simp [-List.length_eq_zero_iff] at *); (try omega)⟩
    | refine ex_ite (fun _ => ?_) (fun _ => ?_)
    | refine ex_bind hR ?_
    | (refine ex_step (fun k => rfl) ?_; simp only [spec_FrameOK.j0, spec_FrameOK.j1, spec_FrameOK.j2, if_true, if_false, Bool.false_eq_true, Bool.not_true, Bool.not_false, decide_eq_true_eq])
theorem impl_kind_26 (A B C : Int) (f R : Bool) (x y : List Int) (z : List S105) (hu : impl_shapeOf.f 26 = some (false, false, false, true, false, false, true)) (hR : Ev (fun k => impl_rangesOK.f k z) R) (hE : z.length = 0 → R = true) :
    ∃ r, Ev (fun k => impl_FrameOK.f k 26 A B C f x y z) r ∧ (r = true ↔ okF 26 A B C f R x.length y.length z.length (true, false, false, false, false, false, 8, 8, 0)) := by
  simp only [impl_FrameOK.f, hu, Option.bind_some, inVar_eq, if_true, if_false, Bool.false_eq_true, decide_eq_true_eq]
  cases R <;> cases f <;>
  repeat' first
    | exact ⟨_, Ev.now _, by simp only [okF]; (try simp [-List.length_eq_zero_iff] at *); (try omega)⟩
    | refine ex_ite (fun _ => ?_) (fun _ => ?_)
    | refine ex_bind hR ?_
    | (refine ex_step (fun k => rfl) ?_; simp only [impl_FrameOK.j0, impl_FrameOK.j1, impl_FrameOK.j2, impl_FrameOK.j3, impl_FrameOK.j4, impl_FrameOK.j5, if_true, if_false, Bool.false_eq_true, Bool.not_true, Bool.not_false, Bool.false_and, Bool.true_and, Bool.and_false, Bool.false_or, Bool.or_false, Bool.true_or, Bool.or_true, Bool.or_eq_true, Bool.and_eq_true, bne_iff_ne, ne_eq, decide_eq_true_eq])
theorem spec_kind_27 (A B C : Int) (f R : Bool) (x y : List Int) (z : List S105) (hu : Ev (fun k => spec_l05Kind.f k 27) (true, false, false, false, false, false, 8, 8, 0)) (hR : Ev (fun k => spec_l05RangesOK.f k z) R) (hE : z.length = 0 → R = true) :
    ∃ r, Ev (fun k => spec_FrameOK.f k 27 A B C f x y z) r ∧ (r = true ↔ okF 27 A B C f R x.length y.length z.length (true, false, false, false, false, false, 8, 8, 0)) := by
  simp only [spec_FrameOK.f]
  refine ex_bind hu ?_
  simp only [if_true, if_false, Bool.false_eq_true, var_eq, Option.bind_some, decide_eq_true_eq]
  cases R <;> cases f <;>
  repeat' first
    | exact ⟨_, Ev.now _, by simp only [okF]; (try simp [-List.length_eq_zero_iff] at *); (try omega)⟩
    | refine ex_ite (fun _ => ?_) (fun _ => ?_)
    | refine ex_bind hR ?_
    | (refine ex_step (fun k => rfl) ?_; simp only [spec_FrameOK.j0, spec_FrameOK.j1, spec_FrameOK.j2, if_true, if_false, Bool.false_eq_true, Bool.not_true, Bool.not_false, decide_eq_true_eq])
theorem impl_kind_27 (A B C : Int) (f R : Bool) (x y : List Int) (z : List S105) (hu : impl_shapeOf.f 27 = some (false, false, false, true, false, false, true)) (hR : Ev (fun k => impl_rangesOK.f k z) R) (hE : z.length = 0 → R = true) :
    ∃ r, Ev (fun k => impl_FrameOK.f k 27 A B C f x y z) r ∧ (r = true ↔ okF 27 A B C f R x.length y.length z.length (true, false, false, false, false, false, 8, 8, 0)) := by
  simp only [impl_FrameOK.f, hu, Option.bind_some, inVar_eq, if_true, if_false, Bool.false_eq_true, decide_eq_true_eq]
  cases R <;> cases f <;>
  repeat' first
    | exact ⟨_, Ev.now _, by simp only [okF]; (try simp [-List.length_eq_zero_iff] at *); (try omega)⟩
    | refine ex_ite (fun _ => ?_) (fun _ => ?_)
    | refine ex_bind hR ?_
    | (refine ex_step (fun k => rfl) ?_; simp only [impl_FrameOK.j0, impl_FrameOK.j1, impl_FrameOK.j2, impl_FrameOK.j3, impl_FrameOK.j4, impl_FrameOK.j5, if_true, if_false, Bool.false_eq_true, Bool.not_true, Bool.not_false, Bool.false_and, Bool.true_and, Bool.and_false, Bool.false_or, Bool.or_false, Bool.true_or, Bool.or_true, Bool.or_eq_true, Bool.and_eq_true, bne_iff_ne, ne_eq, decide_eq_true_eq])
theorem spec_kind_28 (A B C : Int) (f R : Bool) (x y : List Int) (z : List S105) (hu : Ev (fun k => spec_l05Kind.f k 28) (true, true, true, false, false, false, 0, 200, 0)) (hR : Ev (fun k => spec_l05RangesOK.f k z) R) (hE : z.length = 0 → R = true) :
    ∃ r, Ev (fun k => spec_FrameOK.f k 28 A B C f x y z) r ∧ (r = true ↔ okF 28 A B C f R x.length y.length z.length (true, true, true, false, false, false, 0, 200, 0)) := by
  simp only [spec_FrameOK.f]
  refine ex_bind hu ?_
  simp only [if_true, if_false, Bool.false_eq_true, var_eq, Option.bind_some, decide_eq_true_eq]
  cases R <;> cases f <;>
  repeat' first
    | exact ⟨_, Ev.now _, by simp only [okF]; (try simp [-List.length_eq_zero_iff] at *); (try omega)⟩
    | refine ex_ite (fun _ => ?_) (fun _ => ?_)
    | refine ex_bind hR ?_
    | (refine ex_step (fun k => rfl) ?_; simp only [spec_FrameOK.j0, spec_FrameOK.j1, spec_FrameOK.j2, if_true, if_false, Bool.false_eq_true, Bool.not_true, Bool.not_false, decide_eq_true_eq])
theorem impl_kind_28 (A B C : Int) (f R : Bool) (x y : List Int) (z : List S105) (hu : impl_shapeOf.f 28 = some (true, true, false, true, false, false, true)) (hR : Ev (fun k => impl_rangesOK.f k z) R) (hE : z.length = 0 → R = true) :
    ∃ r, Ev (fun k => impl_FrameOK.f k 28 A B C f x y z) r ∧ (r = true ↔ okF 28 A B C f R x.length y.length z.length (true, true, true, false, false, false, 0, 200, 0)) := by
  simp only [impl_FrameOK.f, hu, Option.bind_some, inVar_eq, if_true, if_false, Bool.false_eq_true, decide_eq_true_eq]
  cases R <;> cases f <;>
  repeat' first
    | exact ⟨_, Ev.now _, by simp only [okF]; (try simp [-List.length_eq_zero_iff] at *); (try omega)⟩
    | refine ex_ite (fun _ => ?_) (fun _ => ?_)
    | refine ex_bind hR ?_
    | (refine ex_step (fun k => rfl) ?_; simp only [impl_FrameOK.j0, impl_FrameOK.j1, impl_FrameOK.j2, impl_FrameOK.j3, impl_FrameOK.j4, impl_FrameOK.j5, if_true, if_false, Bool.false_eq_true, Bool.not_true, Bool.not_false, Bool.false_and, Bool.true_and, Bool.and_false, Bool.false_or, Bool.or_false, Bool.true_or, Bool.or_true, Bool.or_eq_true, Bool.and_eq_true, bne_iff_ne, ne_eq, decide_eq_true_eq])
theorem spec_kind_29 (A B C : Int) (f R : Bool) (x y : List Int) (z : List S105) (hu : Ev (fun k => spec_l05Kind.f k 29) (true, true, false, false, false, false, 0, 200, 0)) (hR : Ev (fun k => spec_l05RangesOK.f k z) R) (hE : z.length = 0 → R = true) :
    ∃ r, Ev (fun k => spec_FrameOK.f k 29 A B C f x y z) r ∧ (r = true ↔ okF 29 A B C f R x.length y.length z.length (true, true, false, false, false, false, 0, 200, 0)) := by
  simp only [spec_FrameOK.f]
  refine ex_bind hu ?_
  simp only [if_true, if_false, Bool.false_eq_true, var_eq, Option.bind_some, decide_eq_true_eq]
  cases R <;> cases f <;>
  repeat' first
    | exact ⟨_, Ev.now _, by simp only [okF]; (try simp [-List.length_eq_zero_iff] at *); (try omega)⟩
    | refine ex_ite (fun _ => ?_) (fun _ => ?_)
    | refine ex_bind hR ?_
    | (refine ex_step (fun k => rfl) ?_; simp only [spec_FrameOK.j0, spec_FrameOK.j1, spec_FrameOK.j2, if_true, if_false, Bool.false_eq_true, Bool.not_true, Bool.not_false, decide_eq_true_eq])
theorem impl_kind_29 (A B C : Int) (f R : Bool) (x y : List Int) (z : List S105) (hu : impl_shapeOf.f 29 = some (true, false, false, true, false, false, true)) (hR : Ev (fun k => impl_rangesOK.f k z) R) (hE : z.length = 0 → R = true) :
    ∃ r, Ev (fun k => impl_FrameOK.f k 29 A B C f x y z) r ∧ (r = true ↔ okF 29 A B C f R x.length y.length z.length (true, true, false, false, false, false, 0, 200, 0)) := by
  simp only [impl_FrameOK.f, hu, Option.bind_some, inVar_eq, if_true, if_false, Bool.false_eq_true, decide_eq_true_eq]
  cases R <;> cases f <;>
  repeat' first
    | exact ⟨_, Ev.now _, by simp only [okF]; (try simp [-List.length_eq_zero_iff] at *); (try omega)⟩
    | refine ex_ite (fun _ => ?_) (fun _ => ?_)
    | refine ex_bind hR ?_
    | (refine ex_step (fun k => rfl) ?_; simp only [impl_FrameOK.j0, impl_FrameOK.j1, impl_FrameOK.j2, impl_FrameOK.j3, impl_FrameOK.j4, impl_FrameOK.j5, if_true, if_false, Bool.false_eq_true, Bool.not_true, Bool.not_false, Bool.false_and, Bool.true_and, Bool.and_false, Bool.false_or, Bool.or_false, Bool.true_or, Bool.or_true, Bool.or_eq_true, Bool.and_eq_true, bne_iff_ne, ne_eq, decide_eq_true_eq])
theorem spec_kind_30 (A B C : Int) (f R : Bool) (x y : List Int) (z : List S105) (hu : Ev (fun k => spec_l05Kind.f k 30) (true, false, false, false, false, false, 0, 0, 0)) (hR : Ev (fun k => spec_l05RangesOK.f k z) R) (hE : z.length = 0 → R = true) :
    ∃ r, Ev (fun k => spec_FrameOK.f k 30 A B C f x y z) r ∧ (r = true ↔ okF 30 A B C f R x.length y.length z.length (true, false, false, false, false, false, 0, 0, 0)) := by
  simp only [spec_FrameOK.f]
  refine ex_bind hu ?_
  simp only [if_true, if_false, Bool.false_eq_true, var_eq, Option.bind_some, decide_eq_true_eq]
  cases R <;> cases f <;>
  repeat' first
    | exact ⟨_, Ev.now _, by simp only [okF]; (try simp [-List.length_eq_zero_iff] at *); (try omega)⟩
    | refine ex_ite (fun _ => ?_) (fun _ => ?_)
    | refine ex_bind hR ?_
    | (refine ex_step (fun k => rfl) ?_; simp only [spec_FrameOK.j0, spec_FrameOK.j1, spec_FrameOK.j2, if_true, if_false, Bool.false_eq_true, Bool.not_true, Bool.not_false, decide_eq_true_eq])
theorem impl_kind_30 (A B C : Int) (f R : Bool) (x y : List Int) (z : List S105) (hu : impl_shapeOf.f 30 = some (false, false, false, false, false, false, true)) (hR : Ev (fun k => impl_rangesOK.f k z) R) (hE : z.length = 0 → R = true) :
    ∃ r, Ev (fun k => impl_FrameOK.f k 30 A B C f x y z) r ∧ (r = true ↔ okF 30 A B C f R x.length y.length z.length (true, false, false, false, false, false, 0, 0, 0)) := by
  simp only [impl_FrameOK.f, hu, Option.bind_some, inVar_eq, if_true, if_false, Bool.false_eq_true, decide_eq_true_eq]
  cases R <;> cases f <;>
  repeat' first
    | exact ⟨_, Ev.now _, by simp only [okF]; (try simp [-List.length_eq_zero_iff] at *); (try omega)⟩
    | refine ex_ite (fun _ => ?_) (fun _ => ?_)
    | refine ex_bind hR ?_
    | (refine ex_step (fun k => rfl) ?_; simp only [impl_FrameOK.j0, impl_FrameOK.j1, impl_FrameOK.j2, impl_FrameOK.j3, impl_FrameOK.j4, impl_FrameOK.j5, if_true, if_false, Bool.false_eq_true, Bool.not_true, Bool.not_false, Bool.false_and, Bool.true_and, Bool.and_false, Bool.false_or, Bool.or_false, Bool.true_or, Bool.or_true, Bool.or_eq_true, Bool.and_eq_true, bne_iff_ne, ne_eq, decide_eq_true_eq])
theorem spec_kind_48 (A B C : Int) (f R : Bool) (x y : List Int) (z : List S105) (hu : Ev (fun k => spec_l05Kind.f k 48) (true, false, false, false, false, false, 0, 1500, 0)) (hR : Ev (fun k => spec_l05RangesOK.f k z) R) (hE : z.length = 0 → R = true) :
    ∃ r, Ev (fun k => spec_FrameOK.f k 48 A B C f x y z) r ∧ (r = true ↔ okF 48 A B C f R x.length y.length z.length (true, false, false, false, false, false, 0, 1500, 0)) := by
  simp only [spec_FrameOK.f]
  refine ex_bind hu ?_
  simp only [if_true, if_false, Bool.false_eq_true, var_eq, Option.bind_some, decide_eq_true_eq]
  cases R <;> cases f <;>
  repeat' first
    | exact ⟨_, Ev.now _, by simp only [okF]; (try simp [-List.length_eq_zero_iff] at *); (try omega)⟩
    | refine ex_ite (fun _ => ?_) (fun _ => ?_)
    | refine ex_bind hR ?_
    | (refine ex_step (fun k => rfl) ?_; simp only [spec_FrameOK.j0, spec_FrameOK.j1, spec_FrameOK.j2, if_true, if_false, Bool.false_eq_true, Bool.not_true, Bool.not_false, decide_eq_true_eq])
theorem impl_kind_48 (A B C : Int) (f R : Bool) (x y : List Int) (z : List S105) (hu : impl_shapeOf.f 48 = some (false, false, false, true, false, false, true)) (hR : Ev (fun k => impl_rangesOK.f k z) R) (hE : z.length = 0 → R = true) :
    ∃ r, Ev (fun k => impl_FrameOK.f k 48 A B C f x y z) r ∧ (r = true ↔ okF 48 A B C f R x.length y.length z.length (true, false, false, false, false, false, 0, 1500, 0)) := by
  simp only [impl_FrameOK.f, hu, Option.bind_some, inVar_eq, if_true, if_false, Bool.false_eq_true, decide_eq_true_eq]
  cases R <;> cases f <;>
  repeat' first
    | exact ⟨_, Ev.now _, by simp only [okF]; (try simp [-List.length_eq_zero_iff] at *); (try omega)⟩
    | refine ex_ite (fun _ => ?_) (fun _ => ?_)
    | refine ex_bind hR ?_
    | (refine ex_step (fun k => rfl) ?_; simp only [impl_FrameOK.j0, impl_FrameOK.j1, impl_FrameOK.j2, impl_FrameOK.j3, impl_FrameOK.j4, impl_FrameOK.j5, if_true, if_false, Bool.false_eq_true, Bool.not_true, Bool.not_false, Bool.false_and, Bool.true_and, Bool.and_false, Bool.false_or, Bool.or_false, Bool.true_or, Bool.or_true, Bool.or_eq_true, Bool.and_eq_true, bne_iff_ne, ne_eq, decide_eq_true_eq])
theorem szFrame_ev (a b c d : Int) (f : Bool) (x y : List Int) (z : List S107) (m : Int) (h0 : 0 ≤ m) (h1 : m ≤ 1048576) (hx : x.length ≤ maxLen) (hy : y.length ≤ maxLen) (hz : z.length ≤ maxLen) :
    ∃ t, laws_szFrame.f a b c d f x y z m = some t ∧ (t < 0 ∨ (x.length ≤ 1048576 ∧ y.length ≤ 1048576 ∧ z.length ≤ 1048576)) := by
  have hz' := hz
  unfold maxLen at hx hy hz
  have m1 : (-1 : Int) < 0 := by decide
  rcases szB x m (by omega) (by omega) (by omega) with ⟨e1, h1⟩ | ⟨e1, h1⟩
  · exact ⟨-1, by simp only [laws_szFrame.f, e1, Option.bind_some, m1, if_true], .inl m1⟩
  rcases szB y (m - x.length) (by omega) (by omega) (by omega) with ⟨e2, h2⟩ | ⟨e2, h2⟩
  · exact ⟨-1, by simp only [laws_szFrame.f, e1, e2, Option.bind_some, show ¬ (m - (x.length : Int) < 0) by omega, m1, if_true, if_false], .inl m1⟩
  rcases szRangeS_at z (m - x.length - y.length) hz' (by omega) with ⟨h3, e3⟩ | ⟨h3, e3⟩
  · exact ⟨-1, by simp only [laws_szFrame.f, e1, e2, e3, Option.bind_some, show ¬ (m - (x.length : Int) < 0) by omega, show ¬ (m - (x.length : Int) - (y.length : Int) < 0) by omega, m1, if_true, if_false], .inl m1⟩
  · exact ⟨m - x.length - y.length - z.length, by simp only [laws_szFrame.f, e1, e2, e3, Option.bind_some, show ¬ (m - (x.length : Int) < 0) by omega, show ¬ (m - (x.length : Int) - (y.length : Int) < 0) by omega, show ¬ (m - (x.length : Int) - (y.length : Int) - (z.length : Int) < 0) by omega, if_false], .inr ⟨by omega, by omega, by omega⟩⟩
theorem toFrame_ev (a b c d : Int) (f : Bool) (x y : List Int) (z : List S107) (hx : x.length ≤ 1048576) (hy : y.length ≤ 1048576) (hz : z.length ≤ 1048576) : Ev (fun k => laws_toFrame.f k a b c d f x y z) (a, b, c, d, f, x, y, z.map conv) := by
  simp only [laws_toFrame.f]
  refine Ev.bind (toByteS_ev _ (by omega)) ?_
  refine Ev.bind (toByteS_ev _ (by omega)) ?_
  exact Ev.bind (toRangeS_ev _ hz) (Ev.now _)
theorem eqFrame_ev (a b c d : Int) (f : Bool) (x y : List Int) (z : List S105) (hx : x.length ≤ 281474976710656) (hy : y.length ≤ 281474976710656) (hz : z.length ≤ 281474976710656) : Ev (fun k => laws_eqFrame.f k a b c d f x y z a b c d f x y z) true := by
  simp only [laws_eqFrame.f, if_true, bne_self_eq_false, Bool.false_eq_true, if_false]
  refine Ev.bind (eqByteS_ev x hx) ?_
  simp only [if_true]
  refine Ev.bind (eqByteS_ev y hy) ?_
  simp only [if_true]
  refine Ev.bind (eqRangeS_ev z hz) ?_
  simp only [if_true]
  exact Ev.now _
theorem frame_known (a : Int) (wa : (Lit.int .i64 a).wf = true) (A B C : Int) (f : Bool) (x y : List Int) (z : List S105) (hz : z.length ≤ 1048576) (h : Known a) :
    ∃ r, Ev (fun k => spec_FrameOK.f k a A B C f x y z) r ∧ Ev (fun k => impl_FrameOK.f k a A B C f x y z) r := by
  obtain ⟨u, hm, hu, -, -⟩ := kind_known a h
  have hsh := shape_ok a wa
  obtain ⟨R, hRs, hRi, -⟩ := ok_both z hz
  have iz : ∀ r : Bool, (∃ r', Ev (fun k => impl_FrameOK.f k a A B C f x y z) r' ∧ (r' = true ↔ okF a A B C f R x.length y.length z.length u)) → (r = true ↔ okF a A B C f R x.length y.length z.length u) → Ev (fun k => impl_FrameOK.f k a A B C f x y z) r := by
    rintro r ⟨r', h1, h2⟩ h3
    have : r' = r := by
      cases r <;> cases r' <;> simp_all
    exact this ▸ h1
  suffices hs : (∃ r, Ev (fun k => spec_FrameOK.f k a A B C f x y z) r ∧ (r = true ↔ okF a A B C f R x.length y.length z.length u)) ∧ (∃ r, Ev (fun k => impl_FrameOK.f k a A B C f x y z) r ∧ (r = true ↔ okF a A B C f R x.length y.length z.length u)) by
    obtain ⟨⟨r, h1, h2⟩, h3⟩ := hs
    exact ⟨r, h1, iz r h3 h2⟩
  clear iz h
  have hE : z.length = 0 → R = true := by
    intro h0
    have e : z = [] := List.eq_nil_of_length_eq_zero h0
    subst e
    have h1 : Ev (fun k => spec_l05RangesOK.f k ([] : List S105)) true := by
      simp only [spec_l05RangesOK.f]
      exact Ev.step (f := fun _ => some true) (fun k => by simp [spec_l05RangesOK.l0]) (Ev.now _)
    exact Ev_unique hRs h1
  simp only [kdTab, List.mem_cons, Prod.mk.injEq, List.not_mem_nil, or_false] at hm
  rcases hm with ⟨rfl, rfl⟩ | ⟨rfl, rfl⟩ | ⟨rfl, rfl⟩ | ⟨rfl, rfl⟩ | ⟨rfl, rfl⟩ | ⟨rfl, rfl⟩ | ⟨rfl, rfl⟩ | ⟨rfl, rfl⟩ | ⟨rfl, rfl⟩ | ⟨rfl, rfl⟩ | ⟨rfl, rfl⟩ | ⟨rfl, rfl⟩ | ⟨rfl, rfl⟩ | ⟨rfl, rfl⟩ | ⟨rfl, rfl⟩ | ⟨rfl, rfl⟩ | ⟨rfl, rfl⟩ | ⟨rfl, rfl⟩ | ⟨rfl, rfl⟩ | ⟨rfl, rfl⟩ | ⟨rfl, rfl⟩ | ⟨rfl, rfl⟩
  · exact ⟨spec_kind_0 A B C f R x y z hu hRs hE, impl_kind_0 A B C f R x y z (by rw [hsh]; kernel_rfl) hRi hE⟩
  · exact ⟨spec_kind_1 A B C f R x y z hu hRs hE, impl_kind_1 A B C f R x y z (by rw [hsh]; kernel_rfl) hRi hE⟩
  · exact ⟨spec_kind_2 A B C f R x y z hu hRs hE, impl_kind_2 A B C f R x y z (by rw [hsh]; kernel_rfl) hRi hE⟩
  · exact ⟨spec_kind_4 A B C f R x y z hu hRs hE, impl_kind_4 A B C f R x y z (by rw [hsh]; kernel_rfl) hRi hE⟩
  · exact ⟨spec_kind_5 A B C f R x y z hu hRs hE, impl_kind_5 A B C f R x y z (by rw [hsh]; kernel_rfl) hRi hE⟩
  · exact ⟨spec_kind_6 A B C f R x y z hu hRs hE, impl_kind_6 A B C f R x y z (by rw [hsh]; kernel_rfl) hRi hE⟩
  · exact ⟨spec_kind_7 A B C f R x y z hu hRs hE, impl_kind_7 A B C f R x y z (by rw [hsh]; kernel_rfl) hRi hE⟩
  · exact ⟨spec_kind_8 A B C f R x y z hu hRs hE, impl_kind_8 A B C f R x y z (by rw [hsh]; kernel_rfl) hRi hE⟩
  · exact ⟨spec_kind_16 A B C f R x y z hu hRs hE, impl_kind_16 A B C f R x y z (by rw [hsh]; kernel_rfl) hRi hE⟩
  · exact ⟨spec_kind_17 A B C f R x y z hu hRs hE, impl_kind_17 A B C f R x y z (by rw [hsh]; kernel_rfl) hRi hE⟩
  · exact ⟨spec_kind_18 A B C f R x y z hu hRs hE, impl_kind_18 A B C f R x y z (by rw [hsh]; kernel_rfl) hRi hE⟩
  · exact ⟨spec_kind_20 A B C f R x y z hu hRs hE, impl_kind_20 A B C f R x y z (by rw [hsh]; kernel_rfl) hRi hE⟩
  · exact ⟨spec_kind_21 A B C f R x y z hu hRs hE, impl_kind_21 A B C f R x y z (by rw [hsh]; kernel_rfl) hRi hE⟩
  · exact ⟨spec_kind_22 A B C f R x y z hu hRs hE, impl_kind_22 A B C f R x y z (by rw [hsh]; kernel_rfl) hRi hE⟩
  · exact ⟨spec_kind_24 A B C f R x y z hu hRs hE, impl_kind_24 A B C f R x y z (by rw [hsh]; kernel_rfl) hRi hE⟩
  · exact ⟨spec_kind_25 A B C f R x y z hu hRs hE, impl_kind_25 A B C f R x y z (by rw [hsh]; kernel_rfl) hRi hE⟩
  · exact ⟨spec_kind_26 A B C f R x y z hu hRs hE, impl_kind_26 A B C f R x y z (by rw [hsh]; kernel_rfl) hRi hE⟩
  · exact ⟨spec_kind_27 A B C f R x y z hu hRs hE, impl_kind_27 A B C f R x y z (by rw [hsh]; kernel_rfl) hRi hE⟩
  · exact ⟨spec_kind_28 A B C f R x y z hu hRs hE, impl_kind_28 A B C f R x y z (by rw [hsh]; kernel_rfl) hRi hE⟩
  · exact ⟨spec_kind_29 A B C f R x y z hu hRs hE, impl_kind_29 A B C f R x y z (by rw [hsh]; kernel_rfl) hRi hE⟩
  · exact ⟨spec_kind_30 A B C f R x y z hu hRs hE, impl_kind_30 A B C f R x y z (by rw [hsh]; kernel_rfl) hRi hE⟩
  · exact ⟨spec_kind_48 A B C f R x y z hu hRs hE, impl_kind_48 A B C f R x y z (by rw [hsh]; kernel_rfl) hRi hE⟩
theorem frame_unknown (a : Int) (wa : (Lit.int .i64 a).wf = true) (A B C : Int) (f : Bool) (x y : List Int) (z : List S105) (h : ¬ Known a) :
    Ev (fun k => spec_FrameOK.f k a A B C f x y z) false ∧ Ev (fun k => impl_FrameOK.f k a A B C f x y z) false := by
  obtain ⟨⟨u, hu, h1⟩, h2⟩ := kind_unknown a h
  refine ⟨?_, ?_⟩
  · simp only [spec_FrameOK.f]
    refine Ev.bind hu ?_
    simp only [h1, Bool.false_eq_true, if_false]
    exact Ev.step (f := fun _ => some false) (fun k => by simp only [spec_FrameOK.j0, if_true]) (Ev.now _)
  · simp only [impl_FrameOK.f, shape_ok a wa, h2, Option.bind_some, Bool.false_eq_true, if_false]
    exact Ev.step (f := fun _ => some false) (fun k => by simp only [impl_FrameOK.j0, if_true]) (Ev.now _)
theorem frame_both (a : Int) (wa : (Lit.int .i64 a).wf = true) (A B C : Int) (f : Bool) (x y : List Int) (z : List S105) (hz : z.length ≤ 1048576) :
    ∃ r, Ev (fun k => spec_FrameOK.f k a A B C f x y z) r ∧ Ev (fun k => impl_FrameOK.f k a A B C f x y z) r := by
  by_cases h : Known a
  · exact frame_known a wa A B C f x y z hz h
  · exact ⟨false, frame_unknown a wa A B C f x y z h⟩
theorem FnExactFrameOK (a A B C : Int) (f : Bool) (x y : List Int) (z : List S107) (qa : (Lit.int .i64 a).wf = true) (qA : (Lit.int .i64 A).wf = true) (qB : (Lit.int .i64 B).wf = true) (qC : (Lit.int .i64 C).wf = true) (qx : x.length ≤ maxLen ∧ ∀ b ∈ x, (Lit.int .u8 b).wf = true) (qy : y.length ≤ maxLen ∧ ∀ b ∈ y, (Lit.int .u8 b).wf = true) (qz : z.length ≤ maxLen ∧ ∀ r ∈ z, (Lit.int .i64 r.f0).wf = true ∧ (Lit.int .i64 r.f1).wf = true) : ∃ k, laws_FnExactFrameOK.f k a A B C f x y z = some true := by
  refine Ev.rounds (g := fun k => laws_FnExactFrameOK.f k a A B C f x y z) ?_
  simp only [laws_FnExactFrameOK.f]
  obtain ⟨t, ht, ht'⟩ := szFrame_ev a A B C f x y z 1048576 (by decide) (by decide) qx.1 qy.1 qz.1
  simp only [ht, Option.bind_some]
  refine Ev_ite (fun _ => Ev.now _) (fun c => ?_)
  obtain ⟨zx, zy, zz⟩ := ht'.resolve_left c
  obtain ⟨r, hs, hi⟩ := frame_both a qa A B C f x y (z.map conv) (by rw [List.length_map]; exact zz)
  refine Ev.bind (toFrame_ev a A B C f x y z zx zy zz) ?_
  refine Ev.bind hs ?_
  refine Ev.bind (toFrame_ev a A B C f x y z zx zy zz) ?_
  refine Ev.bind hi ?_
  simp only [bne_self_eq_false, Bool.false_eq_true, if_false]
  refine Ev.bind (toFrame_ev a A B C f x y z zx zy zz) ?_
  refine Ev.bind (eqFrame_ev a A B C f x y (z.map conv) (by omega) (by omega) (by rw [List.length_map]; omega)) ?_
  simp only [if_true]
  exact Ev.now _

end Go.Proofs.Ytdojcdhlcnlohaa.Pure
